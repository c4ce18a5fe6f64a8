/- What the functions under ParseSpeaks compute, step by step, as functions in Lean: texts that were built one by one, joined. -/
import Derived.Test.YtmippldlhnajkaaGreatDoorParseSpeaksJ19
set_option maxRecDepth 100000
set_option maxHeartbeats 20000000
set_option linter.unusedSimpArgs false
set_option linter.unusedVariables false
set_option linter.unusedSectionVars false
namespace Go.Proofs.YtmippldlhnajkaaGreatDoor
open Go Go.Vm
attribute [local irreducible] Go.Vm.Ev Go.Vm.Os Go.Vm.OsP Go.Vm.Lp Go.Vm.A9 Go.Vm.H9 Go.Vm.I6 Go.Vm.E
abbrev a1H (n1:Nod)(words2:List Str)(p:Option (List Str)):Prop:=OkF env p 177 [.ptr 0 0,.agg (c0 n1.op n1.s n1.n n1.t.kind n1.t.name n1.t.n (.sl C9 n1.t.args) (.sl C9 n1.ts) (.sl F5 n1.l) n1.at_)] [(0,.row [.st 1 clS words2]),(1,.tip (tpe 1 (List.length words2)) (List.length words2))] (a7K n1 words2)
abbrev a2o (l1:List Nod)(words2:List Str)(p:Option (List Str)):Prop:=OkF env p 82 [.ptr 0 0,.sl F5 l1,.func (.func 177) [.ptr 0 0] []] [(0,.row [.st 1 clS words2]),(1,.tip (tpe 1 (List.length words2)) (List.length words2))] (a4S l1 words2)
class p9.Ok (Φ:p9):Prop where
 I8:∀{n1:Nod} {words2:List Str},a1H n1 words2 (Φ.I8 n1 words2)
 R6:∀{l1:List Nod} {words2:List Str},a2o l1 words2 (Φ.R6 l1 words2)
instance {Φ:p9} [h:p9.Ok Φ] {n1:Nod}{words2:List Str}:a1H n1 words2 (Φ.I8 n1 words2):=h.I8
instance {Φ:p9} [h:p9.Ok Φ] {l1:List Nod}{words2:List Str}:a2o l1 words2 (Φ.R6 l1 words2):=h.R6
theorem a7J (n:Nat){Φ:p9} [hΦ:p9.Ok Φ] {n1:Nod}{words2:List Str}:a1H n1 words2 (Y4 n Φ n1 words2):=⟨fun{r} h=>by
 unfold Y4 at h
 obtain⟨n1_0,n1_1,n1_2,⟨n1_3,n1_4,n1_5,n1_6⟩,n1_7,n1_8,n1_9⟩:=n1
 refine A8 rfl Tryz.func177 rfl rfl ?_
 exact blk⟩
theorem a8N (n:Nat){Φ:p9} [hΦ:p9.Ok Φ] {l1:List Nod}{words2:List Str}:a2o l1 words2 (a05 n Φ l1 words2):=⟨fun{r} h=>by
 unfold a05 at h
 refine A8 rfl Tryz.func82 rfl rfl ?_
 let kr:=fun r:List Str=>a1Q env 82 2 Tryz.f82.results.toList (a4S l1 words2 r)
 let jl1:Jn 1 (Int×List Str):=⟨fun fr H z=>([(0,.ptr 0 0),(2,.func (.func 177) [.ptr 0 0] []),(8,.sl F5 l1),(9,.i (List.length l1:Int)),(10,.i z.1)],[(0,.row [.st 1 clS z.2]),(1,.tip (tpe 1 (List.length z.2)) (List.length z.2))])⟩
 let jn1:Jn 6 (List Str):=⟨fun fr H z=>([(0,.ptr 0 0),(2,.func (.func 177) [.ptr 0 0] []),(7,.ptr 2 0),(8,.sl F5 l1),(9,.i (List.length l1:Int)),(10,(lk 10 fr))],[(0,.row [.st 1 clS z]),(1,.tip (tpe 1 (List.length z)) (List.length z)),(2,oH H 512)])⟩
 exact blk⟩
theorem p9.ok:∀n,p9.Ok (p9.fs n)
 | 0=>⟨⟨fun h=>by cases h⟩,⟨fun h=>by cases h⟩⟩
 | n+1=>have:=p9.ok n;⟨a7J n,a8N n⟩
instance b74 {n:Nat}{n1:Nod}{words2:List Str}:a1H n1 words2 (I8 n n1 words2):=(p9.ok n).I8
instance b9K {n:Nat}{l1:List Nod}{words2:List Str}:a2o l1 words2 (R6 n l1 words2):=(p9.ok n).R6
abbrev c1E (n1:Nod)(ops2:List Int)(p:Option (List Nod)):Prop:=OkF env p 60 [.agg (c0 n1.op n1.s n1.n n1.t.kind n1.t.name n1.t.n (.sl C9 n1.t.args) (.sl C9 n1.ts) (.sl F5 n1.l) n1.at_),.slice .sealed (List.length ops2) ((clI .i64) ops2)] [] (b2v n1 ops2)
instance parse_of_I {n:Nat}{n1:Nod}{ops2:List Int}:c1E n1 ops2 (a5M n n1 ops2):=⟨fun{r} h=>by
 unfold a5M at h
 obtain⟨n1_0,n1_1,n1_2,⟨n1_3,n1_4,n1_5,n1_6⟩,n1_7,n1_8,n1_9⟩:=n1
 refine A8 rfl Tryz.func60 rfl rfl ?_
 let kr:=fun r:List Nod=>a1Q env 60 0 Tryz.f60.results.toList (b2v (Nod.mk n1_0 n1_1 n1_2 (Typ.mk n1_3 n1_4 n1_5 n1_6) n1_7 n1_8 n1_9) ops2 r)
 let jn1:Jn 13 (List Nod):=⟨fun fr H z=>([(5,.st 0 F5 z)],[(0,.tip (tpe 10 (List.length z)) (List.length z))])⟩
 let jl1:Jn 3 (List Nod×Int):=⟨fun fr H z=>([(1,.slice .sealed (List.length ops2) ((clI .i64) ops2)),(5,.st 0 F5 z.1),(11,.sl F5 n1_8),(12,.i (List.length n1_8:Int)),(13,.i z.2)],[(0,.tip (tpe 10 (List.length z.1)) (List.length z.1))])⟩
 let jn2:Jn 12 (List Nod×Int):=⟨fun fr H z=>([(1,.slice .sealed (List.length ops2) ((clI .i64) ops2)),(5,.st 0 F5 z.1),(11,.sl F5 n1_8),(12,.i (List.length n1_8:Int)),(13,.i z.2)],[(0,.tip (tpe 10 (List.length z.1)) (List.length z.1))])⟩
 let jl2:Jn 6 (List Nod×Int×Int):=⟨fun fr H z=>([(1,.slice .sealed (List.length ops2) ((clI .i64) ops2)),(5,.st 0 F5 z.1),(7,.ptr 1 0),(11,.sl F5 n1_8),(12,.i (List.length n1_8:Int)),(13,.i z.2.1),(17,.slice .sealed (List.length ops2) ((clI .i64) ops2)),(18,.i (List.length ops2:Int)),(19,.i z.2.2)],[(0,.tip (tpe 10 (List.length z.1)) (List.length z.1)),(1,oH H 512)])⟩
 let jn3:Jn 11 (List Nod):=⟨fun fr H z=>([(1,.slice .sealed (List.length ops2) ((clI .i64) ops2)),(5,.st 0 F5 z),(7,.ptr 1 0),(11,.sl F5 n1_8),(12,.i (List.length n1_8:Int)),(13,(lk 13 fr)),(17,.slice .sealed (List.length ops2) ((clI .i64) ops2)),(18,.i (List.length ops2:Int)),(19,(lk 19 fr))],[(0,.tip (tpe 10 (List.length z)) (List.length z)),(1,oH H 1)])⟩
 exact blk⟩
abbrev a2F (n1:Nod)(words2:List Str)(p:Option (List Str)):Prop:=OkF env p 41 [.ptr 0 0,.agg (c0 n1.op n1.s n1.n n1.t.kind n1.t.name n1.t.n (.sl C9 n1.t.args) (.sl C9 n1.ts) (.sl F5 n1.l) n1.at_)] [(0,.row [.st 1 clS words2]),(1,.tip (tpe 1 (List.length words2)) (List.length words2))] (a9y n1 words2)
abbrev a14 (n1:Nod)(words2:List Str)(p:Option (List Str)):Prop:=OkF env p 79 [.ptr 0 0,.agg (c0 n1.op n1.s n1.n n1.t.kind n1.t.name n1.t.n (.sl C9 n1.t.args) (.sl C9 n1.ts) (.sl F5 n1.l) n1.at_)] [(0,.row [.st 1 clS words2]),(1,.tip (tpe 1 (List.length words2)) (List.length words2))] (a4A n1 words2)
abbrev a1E (n1:Nod)(words2:List Str)(p:Option (List Str)):Prop:=OkF env p 81 [.ptr 0 0,.agg (c0 n1.op n1.s n1.n n1.t.kind n1.t.name n1.t.n (.sl C9 n1.t.args) (.sl C9 n1.ts) (.sl F5 n1.l) n1.at_)] [(0,.row [.st 1 clS words2]),(1,.tip (tpe 1 (List.length words2)) (List.length words2))] (a4a n1 words2)
abbrev a01 (n1:Nod)(words2:List Str)(p:Option (List Str)):Prop:=OkF env p 144 [.ptr 0 0,.agg (c0 n1.op n1.s n1.n n1.t.kind n1.t.name n1.t.n (.sl C9 n1.t.args) (.sl C9 n1.ts) (.sl F5 n1.l) n1.at_)] [(0,.row [.st 1 clS words2]),(1,.tip (tpe 1 (List.length words2)) (List.length words2))] (a3D n1 words2)
abbrev a2p (n1:Nod)(words2:List Str)(p:Option (List Str)):Prop:=OkF env p 118 [.ptr 0 0,.agg (c0 n1.op n1.s n1.n n1.t.kind n1.t.name n1.t.n (.sl C9 n1.t.args) (.sl C9 n1.ts) (.sl F5 n1.l) n1.at_)] [(0,.row [.st 1 clS words2]),(1,.tip (tpe 1 (List.length words2)) (List.length words2))] (a4U n1 words2)
abbrev a3p (l1:List Nod)(words2:List Str)(p:Option (List Str)):Prop:=OkF env p 82 [.ptr 0 0,.sl F5 l1,.func (.func 41) [.ptr 0 0] []] [(0,.row [.st 1 clS words2]),(1,.tip (tpe 1 (List.length words2)) (List.length words2))] (a5Y l1 words2)
abbrev a2Z (n1:Nod)(words2:List Str)(p:Option (List Str)):Prop:=OkF env p 83 [.ptr 0 0,.agg (c0 n1.op n1.s n1.n n1.t.kind n1.t.name n1.t.n (.sl C9 n1.t.args) (.sl C9 n1.ts) (.sl F5 n1.l) n1.at_)] [(0,.row [.st 1 clS words2]),(1,.tip (tpe 1 (List.length words2)) (List.length words2))] (b0k n1 words2)
abbrev a1i (n1:Nod)(words2:List Str)(p:Option (List Str)):Prop:=OkF env p 145 [.ptr 0 0,.agg (c0 n1.op n1.s n1.n n1.t.kind n1.t.name n1.t.n (.sl C9 n1.t.args) (.sl C9 n1.ts) (.sl F5 n1.l) n1.at_)] [(0,.row [.st 1 clS words2]),(1,.tip (tpe 1 (List.length words2)) (List.length words2))] (a3U n1 words2)
abbrev a2E (l1:List Nod)(words2:List Str)(p:Option (List Str)):Prop:=OkF env p 146 [.ptr 0 0,.sl F5 l1] [(0,.row [.st 1 clS words2]),(1,.tip (tpe 1 (List.length words2)) (List.length words2))] (a9w l1 words2)
class j3.Ok (Φ:j3):Prop where
 w9:∀{n1:Nod} {words2:List Str},a2F n1 words2 (Φ.w9 n1 words2)
 Q8:∀{n1:Nod} {words2:List Str},a14 n1 words2 (Φ.Q8 n1 words2)
 O7:∀{n1:Nod} {words2:List Str},a1E n1 words2 (Φ.O7 n1 words2)
 G8:∀{n1:Nod} {words2:List Str},a01 n1 words2 (Φ.G8 n1 words2)
 I4:∀{n1:Nod} {words2:List Str},a2p n1 words2 (Φ.I4 n1 words2)
 V9:∀{l1:List Nod} {words2:List Str},a3p l1 words2 (Φ.V9 l1 words2)
 X3:∀{n1:Nod} {words2:List Str},a2Z n1 words2 (Φ.X3 n1 words2)
 J6:∀{n1:Nod} {words2:List Str},a1i n1 words2 (Φ.J6 n1 words2)
 M4:∀{l1:List Nod} {words2:List Str},a2E l1 words2 (Φ.M4 l1 words2)
instance {Φ:j3} [h:j3.Ok Φ] {n1:Nod}{words2:List Str}:a2F n1 words2 (Φ.w9 n1 words2):=h.w9
instance {Φ:j3} [h:j3.Ok Φ] {n1:Nod}{words2:List Str}:a14 n1 words2 (Φ.Q8 n1 words2):=h.Q8
instance {Φ:j3} [h:j3.Ok Φ] {n1:Nod}{words2:List Str}:a1E n1 words2 (Φ.O7 n1 words2):=h.O7
instance {Φ:j3} [h:j3.Ok Φ] {n1:Nod}{words2:List Str}:a01 n1 words2 (Φ.G8 n1 words2):=h.G8
instance {Φ:j3} [h:j3.Ok Φ] {n1:Nod}{words2:List Str}:a2p n1 words2 (Φ.I4 n1 words2):=h.I4
instance {Φ:j3} [h:j3.Ok Φ] {l1:List Nod}{words2:List Str}:a3p l1 words2 (Φ.V9 l1 words2):=h.V9
instance {Φ:j3} [h:j3.Ok Φ] {n1:Nod}{words2:List Str}:a2Z n1 words2 (Φ.X3 n1 words2):=h.X3
instance {Φ:j3} [h:j3.Ok Φ] {n1:Nod}{words2:List Str}:a1i n1 words2 (Φ.J6 n1 words2):=h.J6
instance {Φ:j3} [h:j3.Ok Φ] {l1:List Nod}{words2:List Str}:a2E l1 words2 (Φ.M4 l1 words2):=h.M4
theorem a9x (n:Nat){Φ:j3} [hΦ:j3.Ok Φ] {n1:Nod}{words2:List Str}:a2F n1 words2 (Q7 n Φ n1 words2):=⟨fun{r} h=>by
 unfold Q7 at h
 obtain⟨n1_0,n1_1,n1_2,⟨n1_3,n1_4,n1_5,n1_6⟩,n1_7,n1_8,n1_9⟩:=n1
 refine A8 rfl Tryz.func41 rfl rfl ?_
 exact blk⟩
theorem a8g (n:Nat){Φ:j3} [hΦ:j3.Ok Φ] {n1:Nod}{words2:List Str}:a14 n1 words2 (a0O n Φ n1 words2):=⟨fun{r} h=>by
 unfold a0O at h
 obtain⟨n1_0,n1_1,n1_2,⟨n1_3,n1_4,n1_5,n1_6⟩,n1_7,n1_8,n1_9⟩:=n1
 refine A8 rfl Tryz.func79 rfl rfl ?_
 let kr:=fun r:List Str=>a1Q env 79 2 Tryz.f79.results.toList (a4A (Nod.mk n1_0 n1_1 n1_2 (Typ.mk n1_3 n1_4 n1_5 n1_6) n1_7 n1_8 n1_9) words2 r)
 let jl1:Jn 2 (Int×List Str):=⟨fun fr H z=>([(0,.ptr 0 0),(3,.ptr 2 0),(7,.sl F5 n1_8),(8,.i (List.length n1_8:Int)),(9,.i z.1)],[(0,.row [.st 1 clS z.2]),(1,.tip (tpe 1 (List.length z.2)) (List.length z.2)),(2,oH H 256)])⟩
 let jn1:Jn 12 (List Str):=⟨fun fr H z=>([(0,.ptr 0 0),(3,.ptr 2 0),(7,.sl F5 n1_8),(8,.i (List.length n1_8:Int)),(9,(lk 9 fr))],[(0,.row [.st 1 clS z]),(1,.tip (tpe 1 (List.length z)) (List.length z)),(2,oH H 2)])⟩
 exact blk⟩
theorem a7H (n:Nat){Φ:j3} [hΦ:j3.Ok Φ] {n1:Nod}{words2:List Str}:a1E n1 words2 (a0y n Φ n1 words2):=⟨fun{r} h=>by
 unfold a0y at h
 obtain⟨n1_0,n1_1,n1_2,⟨n1_3,n1_4,n1_5,n1_6⟩,n1_7,n1_8,n1_9⟩:=n1
 refine A8 rfl Tryz.func81 rfl rfl ?_
 let kr:=fun r:List Str=>a1Q env 81 2 Tryz.f81.results.toList (a4a (Nod.mk n1_0 n1_1 n1_2 (Typ.mk n1_3 n1_4 n1_5 n1_6) n1_7 n1_8 n1_9) words2 r)
 let jn1:Jn 15 (List Str):=⟨fun fr H z=>([(0,.ptr 0 0)],[(0,.row [.st 1 clS z]),(1,.tip (tpe 1 (List.length z)) (List.length z))])⟩
 let jl1:Jn 6 (Int×List Str):=⟨fun fr H z=>([(0,.ptr 0 0),(25,ow .sealed (lk 25 fr)),(26,(lk 26 fr)),(27,.i z.1)],[(0,.row [.st 1 clS z.2]),(1,.tip (tpe 1 (List.length z.2)) (List.length z.2))])⟩
 let jn2:Jn 14 (Int×List Str):=⟨fun fr H z=>([(0,.ptr 0 0),(25,ow .sealed (lk 25 fr)),(26,(lk 26 fr)),(27,.i z.1)],[(0,.row [.st 1 clS z.2]),(1,.tip (tpe 1 (List.length z.2)) (List.length z.2))])⟩
 let jl2:Jn 9 (Int×Int×List Str):=⟨fun fr H z=>([(0,.ptr 0 0),(25,ow .sealed (lk 25 fr)),(26,(lk 26 fr)),(27,.i z.1),(32,ow .sealed (agC (lk 30 fr) 8)),(33,(lk 33 fr)),(34,.i z.2.1)],[(0,.row [.st 1 clS z.2.2]),(1,.tip (tpe 1 (List.length z.2.2)) (List.length z.2.2))])⟩
 exact blk⟩
theorem a6L (n:Nat){Φ:j3} [hΦ:j3.Ok Φ] {n1:Nod}{words2:List Str}:a01 n1 words2 (G6 n Φ n1 words2):=⟨fun{r} h=>by
 unfold G6 at h
 obtain⟨n1_0,n1_1,n1_2,⟨n1_3,n1_4,n1_5,n1_6⟩,n1_7,n1_8,n1_9⟩:=n1
 refine A8 rfl Tryz.func144 rfl rfl ?_
 let kr:=fun r:List Str=>a1Q env 144 2 Tryz.f144.results.toList (a3D (Nod.mk n1_0 n1_1 n1_2 (Typ.mk n1_3 n1_4 n1_5 n1_6) n1_7 n1_8 n1_9) words2 r)
 let jn1:Jn 7 (List Str):=⟨fun fr H z=>([(0,.ptr 0 0),(3,.ptr 2 0)],[(0,.row [.st 1 clS z]),(1,.tip (tpe 1 (List.length z)) (List.length z)),(2,oH H 256)])⟩
 let jn2:Jn 11 (List Str):=⟨fun fr H z=>([(0,.ptr 0 0),(3,.ptr 2 0)],[(0,.row [.st 1 clS z]),(1,.tip (tpe 1 (List.length z)) (List.length z)),(2,oH H 2)])⟩
 let jn3:Jn 14 (List Str):=⟨fun fr H z=>([(0,.ptr 0 0)],[(0,.row [.st 1 clS z]),(1,.tip (tpe 1 (List.length z)) (List.length z))])⟩
 let jn4:Jn 47 (List Str):=⟨fun fr H z=>([(0,.ptr 0 0)],[(0,.row [.st 1 clS z]),(1,.tip (tpe 1 (List.length z)) (List.length z))])⟩
 let jl1:Jn 40 (Int×List Str):=⟨fun fr H z=>([(0,.ptr 0 0),(140,ow .sealed (lk 140 fr)),(141,(lk 141 fr)),(142,.i z.1)],[(0,.row [.st 1 clS z.2]),(1,.tip (tpe 1 (List.length z.2)) (List.length z.2))])⟩
 let jn5:Jn 52 (List Str):=⟨fun fr H z=>([(0,.ptr 0 0)],[(0,.row [.st 1 clS z]),(1,.tip (tpe 1 (List.length z)) (List.length z))])⟩
 exact blk⟩
theorem a8O (n:Nat){Φ:j3} [hΦ:j3.Ok Φ] {n1:Nod}{words2:List Str}:a2p n1 words2 (a06 n Φ n1 words2):=⟨fun{r} h=>by
 unfold a06 at h
 obtain⟨n1_0,n1_1,n1_2,⟨n1_3,n1_4,n1_5,n1_6⟩,n1_7,n1_8,n1_9⟩:=n1
 refine A8 rfl Tryz.func118 rfl rfl ?_
 let kr:=fun r:List Str=>a1Q env 118 2 Tryz.f118.results.toList (a4U (Nod.mk n1_0 n1_1 n1_2 (Typ.mk n1_3 n1_4 n1_5 n1_6) n1_7 n1_8 n1_9) words2 r)
 let jn1:Jn 8 (List Str):=⟨fun fr H z=>([(0,.ptr 0 0)],[(0,.row [.st 1 clS z]),(1,.tip (tpe 1 (List.length z)) (List.length z))])⟩
 let jl1:Jn 3 (Int×List Str):=⟨fun fr H z=>([(0,.ptr 0 0),(10,.sl F5 n1_8),(11,.i (List.length n1_8:Int)),(12,.i z.1)],[(0,.row [.st 1 clS z.2]),(1,.tip (tpe 1 (List.length z.2)) (List.length z.2))])⟩
 exact blk⟩
theorem b1a (n:Nat){Φ:j3} [hΦ:j3.Ok Φ] {l1:List Nod}{words2:List Str}:a3p l1 words2 (a2n n Φ l1 words2):=⟨fun{r} h=>by
 unfold a2n at h
 refine A8 rfl Tryz.func82 rfl rfl ?_
 let kr:=fun r:List Str=>a1Q env 82 2 Tryz.f82.results.toList (a5Y l1 words2 r)
 let jl1:Jn 1 (Int×List Str):=⟨fun fr H z=>([(0,.ptr 0 0),(2,.func (.func 41) [.ptr 0 0] []),(8,.sl F5 l1),(9,.i (List.length l1:Int)),(10,.i z.1)],[(0,.row [.st 1 clS z.2]),(1,.tip (tpe 1 (List.length z.2)) (List.length z.2))])⟩
 let jn1:Jn 6 (List Str):=⟨fun fr H z=>([(0,.ptr 0 0),(2,.func (.func 41) [.ptr 0 0] []),(7,.ptr 2 0),(8,.sl F5 l1),(9,.i (List.length l1:Int)),(10,(lk 10 fr))],[(0,.row [.st 1 clS z]),(1,.tip (tpe 1 (List.length z)) (List.length z)),(2,oH H 512)])⟩
 exact blk⟩
theorem b0j (n:Nat){Φ:j3} [hΦ:j3.Ok Φ] {n1:Nod}{words2:List Str}:a2Z n1 words2 (a1W n Φ n1 words2):=⟨fun{r} h=>by
 unfold a1W at h
 obtain⟨n1_0,n1_1,n1_2,⟨n1_3,n1_4,n1_5,n1_6⟩,n1_7,n1_8,n1_9⟩:=n1
 refine A8 rfl Tryz.func83 rfl rfl ?_
 exact blk⟩
theorem a7g (n:Nat){Φ:j3} [hΦ:j3.Ok Φ] {n1:Nod}{words2:List Str}:a1i n1 words2 (a0m n Φ n1 words2):=⟨fun{r} h=>by
 unfold a0m at h
 obtain⟨n1_0,n1_1,n1_2,⟨n1_3,n1_4,n1_5,n1_6⟩,n1_7,n1_8,n1_9⟩:=n1
 refine A8 rfl Tryz.func145 rfl rfl ?_
 let kr:=fun r:List Str=>a1Q env 145 2 Tryz.f145.results.toList (a3U (Nod.mk n1_0 n1_1 n1_2 (Typ.mk n1_3 n1_4 n1_5 n1_6) n1_7 n1_8 n1_9) words2 r)
 let jn1:Jn 30008 (Bool):=⟨fun fr H z=>([(0,.ptr 0 0),(3,.ptr 2 0),(9,.bool z)],[(0,.row [.st 1 clS words2]),(1,.tip (tpe 1 (List.length words2)) (List.length words2)),(2,oH H 256)])⟩
 exact blk⟩
theorem a9v (n:Nat){Φ:j3} [hΦ:j3.Ok Φ] {l1:List Nod}{words2:List Str}:a2E l1 words2 (a1u n Φ l1 words2):=⟨fun{r} h=>by
 unfold a1u at h
 refine A8 rfl Tryz.func146 rfl rfl ?_
 exact blk⟩
theorem j3.ok:∀n,j3.Ok (j3.fs n)
 | 0=>⟨⟨fun h=>by cases h⟩,⟨fun h=>by cases h⟩,⟨fun h=>by cases h⟩,⟨fun h=>by cases h⟩,⟨fun h=>by cases h⟩,⟨fun h=>by cases h⟩,⟨fun h=>by cases h⟩,⟨fun h=>by cases h⟩,⟨fun h=>by cases h⟩⟩
 | n+1=>have:=j3.ok n;⟨a9x n,a8g n,a7H n,a6L n,a8O n,b1a n,b0j n,a7g n,a9v n⟩
instance c0t {n:Nat}{n1:Nod}{words2:List Str}:a2F n1 words2 (w9 n n1 words2):=(j3.ok n).w9
instance b8B {n:Nat}{n1:Nod}{words2:List Str}:a14 n1 words2 (Q8 n n1 words2):=(j3.ok n).Q8
instance b73 {n:Nat}{n1:Nod}{words2:List Str}:a1E n1 words2 (O7 n n1 words2):=(j3.ok n).O7
instance b6g {n:Nat}{n1:Nod}{words2:List Str}:a01 n1 words2 (G8 n n1 words2):=(j3.ok n).G8
instance b9L {n:Nat}{n1:Nod}{words2:List Str}:a2p n1 words2 (I4 n n1 words2):=(j3.ok n).I4
instance c25 {n:Nat}{l1:List Nod}{words2:List Str}:a3p l1 words2 (V9 n l1 words2):=(j3.ok n).V9
instance c1H {n:Nat}{n1:Nod}{words2:List Str}:a2Z n1 words2 (X3 n n1 words2):=(j3.ok n).X3
instance b6Y {n:Nat}{n1:Nod}{words2:List Str}:a1i n1 words2 (J6 n n1 words2):=(j3.ok n).J6
instance c0s {n:Nat}{l1:List Nod}{words2:List Str}:a2E l1 words2 (M4 n l1 words2):=(j3.ok n).M4
abbrev b2t (n1:Nod)(p:Option (Str)):Prop:=OkF env p 14 [.agg (c0 n1.op n1.s n1.n n1.t.kind n1.t.name n1.t.n (.sl C9 n1.t.args) (.sl C9 n1.ts) (.sl F5 n1.l) n1.at_)] [] (b08 n1)
instance c2Z {n:Nat}{n1:Nod}:b2t n1 (a1o n n1):=⟨fun{r} h=>by
 unfold a1o at h
 obtain⟨n1_0,n1_1,n1_2,⟨n1_3,n1_4,n1_5,n1_6⟩,n1_7,n1_8,n1_9⟩:=n1
 refine A8 rfl Tryz.func14 rfl rfl ?_
 exact blk⟩
abbrev a5E (l1:List Str)(t2:Typ)(p:Option (List Str)):Prop:=OkF env p 46 [.st 0 clS l1,.agg [.i t2.kind,.str t2.name,.i t2.n,.sl C9 t2.args]] [(0,.tip (tpe 1 (List.length l1)) (List.length l1))] (a9n l1 t2)
class H8.Ok (Φ:H8):Prop where
 L9:∀{l1:List Str} {t2:Typ},a5E l1 t2 (Φ.L9 l1 t2)
instance {Φ:H8} [h:H8.Ok Φ] {l1:List Str}{t2:Typ}:a5E l1 t2 (Φ.L9 l1 t2):=h.L9
theorem b4e (n:Nat){Φ:H8} [hΦ:H8.Ok Φ] {l1:List Str}{t2:Typ}:a5E l1 t2 (a4h n Φ l1 t2):=⟨fun{r} h=>by
 unfold a4h at h
 obtain⟨t2_0,t2_1,t2_2,t2_3⟩:=t2
 refine A8 rfl Tryz.func46 rfl rfl ?_
 let kr:=fun r:List Str=>a1Q env 46 1 Tryz.f46.results.toList (a9n l1 (Typ.mk t2_0 t2_1 t2_2 t2_3) r)
 let jn1:Jn 36 (List Str):=⟨fun fr H z=>([(0,.st 0 clS z),(3,.ptr 1 0)],[(0,.tip (tpe 1 (List.length z)) (List.length z)),(1,oH H 256)])⟩
 let jn2:Jn 19 (List Str):=⟨fun fr H z=>([(0,.st 0 clS z),(3,.ptr 1 0)],[(0,.tip (tpe 1 (List.length z)) (List.length z)),(1,oH H 256)])⟩
 let jl1:Jn 15 (List Str×Int):=⟨fun fr H z=>([(0,.st 0 clS z.1),(3,.ptr 1 0),(5,.i z.2)],[(0,.tip (tpe 1 (List.length z.1)) (List.length z.1)),(1,oH H 256)])⟩
 let jn3:Jn 28 (List Str):=⟨fun fr H z=>([(0,.st 0 clS z),(3,.ptr 1 0)],[(0,.tip (tpe 1 (List.length z)) (List.length z)),(1,oH H 256)])⟩
 let jl2:Jn 22 (List Str×Int):=⟨fun fr H z=>([(0,.st 0 clS z.1),(3,.ptr 1 0),(6,.i z.2)],[(0,.tip (tpe 1 (List.length z.1)) (List.length z.1)),(1,oH H 256)])⟩
 let jn4:Jn 27 (List Str):=⟨fun fr H z=>([(0,.st 0 clS z),(3,.ptr 1 0),(6,(lk 6 fr))],[(0,.tip (tpe 1 (List.length z)) (List.length z)),(1,oH H 1)])⟩
 let jn5:Jn 31 (List Str):=⟨fun fr H z=>([(0,.st 0 clS z)],[(0,.tip (tpe 1 (List.length z)) (List.length z))])⟩
 let jn6:Jn 45 (List Str):=⟨fun fr H z=>([(0,.st 0 clS z)],[(0,.tip (tpe 1 (List.length z)) (List.length z))])⟩
 let jn7:Jn 44 (List Str):=⟨fun fr H z=>([(0,.st 0 clS z)],[(0,.tip (tpe 1 (List.length z)) (List.length z))])⟩
 let jl3:Jn 38 (List Str×Int):=⟨fun fr H z=>([(0,.st 0 clS z.1),(3,.ptr 1 0),(7,.i z.2)],[(0,.tip (tpe 1 (List.length z.1)) (List.length z.1)),(1,oH H 1)])⟩
 let jn8:Jn 43 (List Str):=⟨fun fr H z=>([(0,.st 0 clS z),(3,.ptr 1 0),(7,(lk 7 fr))],[(0,.tip (tpe 1 (List.length z)) (List.length z)),(1,oH H 1)])⟩
 exact blk⟩
theorem H8.ok:∀n,H8.Ok (H8.fs n)
 | 0=>⟨⟨fun h=>by cases h⟩⟩
 | n+1=>have:=H8.ok n;⟨b4e n⟩
instance ref02_typed_I {n:Nat}{l1:List Str}{t2:Typ}:a5E l1 t2 (L9 n l1 t2):=(H8.ok n).L9
abbrev b6l (n1:Int)(p:Option (Str)):Prop:=OkF env p 85 [.i n1] [] (b4d n1)
instance ref02_truth_I {n1:Int}:b6l n1 (a4F n1):=⟨fun{r} h=>by
 unfold a4F at h
 refine A8 rfl Tryz.func85 rfl rfl ?_
 exact blk⟩
abbrev c1N (n1:Nod)(ops2:List Int)(p:Option (List Nod)):Prop:=OkF env p 124 [.agg (c0 n1.op n1.s n1.n n1.t.kind n1.t.name n1.t.n (.sl C9 n1.t.args) (.sl C9 n1.ts) (.sl F5 n1.l) n1.at_),.slice .sealed (List.length ops2) ((clI .i64) ops2)] [] (b2I n1 ops2)
instance ref02_of_I {n:Nat}{n1:Nod}{ops2:List Int}:c1N n1 ops2 (a8o n n1 ops2):=⟨fun{r} h=>by
 unfold a8o at h
 obtain⟨n1_0,n1_1,n1_2,⟨n1_3,n1_4,n1_5,n1_6⟩,n1_7,n1_8,n1_9⟩:=n1
 refine A8 rfl Tryz.func124 rfl rfl ?_
 let kr:=fun r:List Nod=>a1Q env 124 0 Tryz.f124.results.toList (b2I (Nod.mk n1_0 n1_1 n1_2 (Typ.mk n1_3 n1_4 n1_5 n1_6) n1_7 n1_8 n1_9) ops2 r)
 let jn1:Jn 11 (List Nod):=⟨fun fr H z=>([(5,.st 0 F5 z)],[(0,.tip (tpe 10 (List.length z)) (List.length z))])⟩
 let jl1:Jn 3 (List Nod×Int):=⟨fun fr H z=>([(1,.slice .sealed (List.length ops2) ((clI .i64) ops2)),(2,.ptr 0 0),(5,.st 1 F5 z.1),(6,.i z.2)],[(0,oH H 192),(1,.tip (tpe 10 (List.length z.1)) (List.length z.1))])⟩
 let jn2:Jn 5 (List Nod×Int):=⟨fun fr H z=>([(1,.slice .sealed (List.length ops2) ((clI .i64) ops2)),(2,.ptr 0 0),(5,.st 1 F5 z.1),(6,.i z.2)],[(0,oH H 0),(1,.tip (tpe 10 (List.length z.1)) (List.length z.1))])⟩
 let jl2:Jn 6 (List Nod×Int×Int):=⟨fun fr H z=>([(1,.slice .sealed (List.length ops2) ((clI .i64) ops2)),(2,.ptr 0 0),(5,.st 1 F5 z.1),(6,.i z.2.1),(7,.i z.2.2)],[(0,oH H 0),(1,.tip (tpe 10 (List.length z.1)) (List.length z.1))])⟩
 exact blk⟩
abbrev b5L (l1:List Str)(n2:Nod)(p:Option (List Str)):Prop:=OkF env p 125 [.st 0 clS l1,.agg (c0 n2.op n2.s n2.n n2.t.kind n2.t.name n2.t.n (.sl C9 n2.t.args) (.sl C9 n2.ts) (.sl F5 n2.l) n2.at_)] [(0,.tip (tpe 1 (List.length l1)) (List.length l1))] (a8m l1 n2)
instance ref02_listed_I {n:Nat}{l1:List Str}{n2:Nod}:b5L l1 n2 (a6n n l1 n2):=⟨fun{r} h=>by
 unfold a6n at h
 obtain⟨n2_0,n2_1,n2_2,⟨n2_3,n2_4,n2_5,n2_6⟩,n2_7,n2_8,n2_9⟩:=n2
 refine A8 rfl Tryz.func125 rfl rfl ?_
 let kr:=fun r:List Str=>a1Q env 125 1 Tryz.f125.results.toList (a8m l1 (Nod.mk n2_0 n2_1 n2_2 (Typ.mk n2_3 n2_4 n2_5 n2_6) n2_7 n2_8 n2_9) r)
 let jn1:Jn 16 (List Str):=⟨fun fr H z=>([(0,.st 0 clS z)],[(0,.tip (tpe 1 (List.length z)) (List.length z))])⟩
 let jl1:Jn 4 (List Str×Int):=⟨fun fr H z=>([(0,.st 0 clS z.1),(5,ow .sealed (lk 12 fr)),(6,.i z.2)],[(0,.tip (tpe 1 (List.length z.1)) (List.length z.1))])⟩
 let jn2:Jn 9 (List Str):=⟨fun fr H z=>([(0,.st 0 clS z),(5,ow .sealed (lk 5 fr)),(6,(lk 6 fr))],[(0,.tip (tpe 1 (List.length z)) (List.length z))])⟩
 let jn3:Jn 14 (List Str):=⟨fun fr H z=>([(0,.st 0 clS z),(5,ow .sealed (lk 5 fr)),(6,(lk 6 fr))],[(0,.tip (tpe 1 (List.length z)) (List.length z))])⟩
 exact blk⟩
abbrev b5O (l1:List Str)(t2:Typ)(p:Option (List Str)):Prop:=OkF env p 126 [.st 0 clS l1,.agg [.i t2.kind,.str t2.name,.i t2.n,.sl C9 t2.args]] [(0,.tip (tpe 1 (List.length l1)) (List.length l1))] (b3p l1 t2)
instance ref02_result_I {n:Nat}{l1:List Str}{t2:Typ}:b5O l1 t2 (a5f n l1 t2):=⟨fun{r} h=>by
 unfold a5f at h
 obtain⟨t2_0,t2_1,t2_2,t2_3⟩:=t2
 refine A8 rfl Tryz.func126 rfl rfl ?_
 exact blk⟩
abbrev a4o (l1:List Str)(n2:Nod)(p:Option (List Str)):Prop:=OkF env p 195 [.st 0 clS l1,.agg (c0 n2.op n2.s n2.n n2.t.kind n2.t.name n2.t.n (.sl C9 n2.t.args) (.sl C9 n2.ts) (.sl F5 n2.l) n2.at_)] [(0,.tip (tpe 1 (List.length l1)) (List.length l1))] (a7u l1 n2)
class F8.Ok (Φ:F8):Prop where
 R8:∀{l1:List Str} {n2:Nod},a4o l1 n2 (Φ.R8 l1 n2)
instance {Φ:F8} [h:F8.Ok Φ] {l1:List Str}{n2:Nod}:a4o l1 n2 (Φ.R8 l1 n2):=h.R8
theorem b2H (n:Nat){Φ:F8} [hΦ:F8.Ok Φ] {l1:List Str}{n2:Nod}:a4o l1 n2 (a2b n Φ l1 n2):=⟨fun{r} h=>by
 unfold a2b at h
 obtain⟨n2_0,n2_1,n2_2,⟨n2_3,n2_4,n2_5,n2_6⟩,n2_7,n2_8,n2_9⟩:=n2
 refine A8 rfl Tryz.func195 rfl rfl ?_
 let kr:=fun r:List Str=>a1Q env 195 1 Tryz.f195.results.toList (a7u l1 (Nod.mk n2_0 n2_1 n2_2 (Typ.mk n2_3 n2_4 n2_5 n2_6) n2_7 n2_8 n2_9) r)
 let jn1:Jn 27 (List Str):=⟨fun fr H z=>([(0,.st 0 clS z)],[(0,.tip (tpe 1 (List.length z)) (List.length z))])⟩
 let jn2:Jn 25 (List Str):=⟨fun fr H z=>([(0,.st 0 clS z),(3,.ptr 1 0)],[(0,.tip (tpe 1 (List.length z)) (List.length z)),(1,oH H 256)])⟩
 let jl1:Jn 18 (List Str×Int):=⟨fun fr H z=>([(0,.st 0 clS z.1),(3,.ptr 1 0),(6,.i z.2)],[(0,.tip (tpe 1 (List.length z.1)) (List.length z.1)),(1,oH H 256)])⟩
 let jn3:Jn 24 (List Str):=⟨fun fr H z=>([(0,.st 0 clS z),(3,.ptr 1 0),(6,(lk 6 fr))],[(0,.tip (tpe 1 (List.length z)) (List.length z)),(1,oH H 1)])⟩
 exact blk⟩
theorem F8.ok:∀n,F8.Ok (F8.fs n)
 | 0=>⟨⟨fun h=>by cases h⟩⟩
 | n+1=>have:=F8.ok n;⟨b2H n⟩
instance c4p {n:Nat}{l1:List Str}{n2:Nod}:a4o l1 n2 (R8 n l1 n2):=(F8.ok n).R8
abbrev b6j (n1:Nod)(p:Option (Bool)):Prop:=OkF env p 150 [.agg (c0 n1.op n1.s n1.n n1.t.kind n1.t.name n1.t.n (.sl C9 n1.t.args) (.sl C9 n1.ts) (.sl F5 n1.l) n1.at_)] [] (b4c n1)
instance ref02_loose_I {n1:Nod}:b6j n1 (a3F n1):=⟨fun{r} h=>by
 unfold a3F at h
 obtain⟨n1_0,n1_1,n1_2,⟨n1_3,n1_4,n1_5,n1_6⟩,n1_7,n1_8,n1_9⟩:=n1
 refine A8 rfl Tryz.func150 rfl rfl ?_
 exact blk⟩
abbrev a5g (l1:List Str)(n2:Nod)(p:Option (List Str)):Prop:=OkF env p 42 [.st 0 clS l1,.agg (c0 n2.op n2.s n2.n n2.t.kind n2.t.name n2.t.n (.sl C9 n2.t.args) (.sl C9 n2.ts) (.sl F5 n2.l) n2.at_)] [(0,.tip (tpe 1 (List.length l1)) (List.length l1))] (a8t l1 n2)
abbrev a5D (l1:List Str)(O3:List Nod)(p:Option (List Str)):Prop:=OkF env p 87 [.st 0 clS l1,.sl F5 O3] [(0,.tip (tpe 1 (List.length l1)) (List.length l1))] (a9m l1 O3)
abbrev a3N (l1:List Str)(n2:Nod)(p:Option (List Str)):Prop:=OkF env p 88 [.st 0 clS l1,.agg (c0 n2.op n2.s n2.n n2.t.kind n2.t.name n2.t.n (.sl C9 n2.t.args) (.sl C9 n2.ts) (.sl F5 n2.l) n2.at_)] [(0,.tip (tpe 1 (List.length l1)) (List.length l1))] (a6T l1 n2)
abbrev a5h (l1:List Str)(n2:Nod)(p:Option (List Str)):Prop:=OkF env p 127 [.st 0 clS l1,.agg (c0 n2.op n2.s n2.n n2.t.kind n2.t.name n2.t.n (.sl C9 n2.t.args) (.sl C9 n2.ts) (.sl F5 n2.l) n2.at_)] [(0,.tip (tpe 1 (List.length l1)) (List.length l1))] (a8u l1 n2)
abbrev a3M (l1:List Str)(n2:Nod)(p:Option (List Str)):Prop:=OkF env p 172 [.st 0 clS l1,.agg (c0 n2.op n2.s n2.n n2.t.kind n2.t.name n2.t.n (.sl C9 n2.t.args) (.sl C9 n2.ts) (.sl F5 n2.l) n2.at_)] [(0,.tip (tpe 1 (List.length l1)) (List.length l1))] (a6S l1 n2)
abbrev a4q (l1:List Str)(n2:Nod)(around3:Bool)(p:Option (List Str)):Prop:=OkF env p 149 [.st 0 clS l1,.agg (c0 n2.op n2.s n2.n n2.t.kind n2.t.name n2.t.n (.sl C9 n2.t.args) (.sl C9 n2.ts) (.sl F5 n2.l) n2.at_),.bool around3] [(0,.tip (tpe 1 (List.length l1)) (List.length l1))] (b2K l1 n2 around3)
class j6.Ok (Φ:j6):Prop where
 F3:∀{l1:List Str} {n2:Nod},a5g l1 n2 (Φ.F3 l1 n2)
 Y7:∀{l1:List Str} {O3:List Nod},a5D l1 O3 (Φ.Y7 l1 O3)
 a0b:∀{l1:List Str} {n2:Nod},a3N l1 n2 (Φ.a0b l1 n2)
 J5:∀{l1:List Str} {n2:Nod},a5h l1 n2 (Φ.J5 l1 n2)
 a0a:∀{l1:List Str} {n2:Nod},a3M l1 n2 (Φ.a0a l1 n2)
 T9:∀{l1:List Str} {n2:Nod} {around3:Bool},a4q l1 n2 around3 (Φ.T9 l1 n2 around3)
instance {Φ:j6} [h:j6.Ok Φ] {l1:List Str}{n2:Nod}:a5g l1 n2 (Φ.F3 l1 n2):=h.F3
instance {Φ:j6} [h:j6.Ok Φ] {l1:List Str}{O3:List Nod}:a5D l1 O3 (Φ.Y7 l1 O3):=h.Y7
instance {Φ:j6} [h:j6.Ok Φ] {l1:List Str}{n2:Nod}:a3N l1 n2 (Φ.a0b l1 n2):=h.a0b
instance {Φ:j6} [h:j6.Ok Φ] {l1:List Str}{n2:Nod}:a5h l1 n2 (Φ.J5 l1 n2):=h.J5
instance {Φ:j6} [h:j6.Ok Φ] {l1:List Str}{n2:Nod}:a3M l1 n2 (Φ.a0a l1 n2):=h.a0a
instance {Φ:j6} [h:j6.Ok Φ] {l1:List Str}{n2:Nod}{around3:Bool}:a4q l1 n2 around3 (Φ.T9 l1 n2 around3):=h.T9
theorem b3q (n:Nat){Φ:j6} [hΦ:j6.Ok Φ] {l1:List Str}{n2:Nod}:a5g l1 n2 (a0e n Φ l1 n2):=⟨fun{r} h=>by
 unfold a0e at h
 obtain⟨n2_0,n2_1,n2_2,⟨n2_3,n2_4,n2_5,n2_6⟩,n2_7,n2_8,n2_9⟩:=n2
 refine A8 rfl Tryz.func42 rfl rfl ?_
 let kr:=fun r:List Str=>a1Q env 42 1 Tryz.f42.results.toList (a8t l1 (Nod.mk n2_0 n2_1 n2_2 (Typ.mk n2_3 n2_4 n2_5 n2_6) n2_7 n2_8 n2_9) r)
 let jn1:Jn 45 (Unit):=⟨fun fr H z=>([(0,.st 0 clS l1),(3,.ptr 1 0)],[(0,.tip (tpe 1 (List.length l1)) (List.length l1)),(1,oH H 256)])⟩
 let jn2:Jn 25 (List Str):=⟨fun fr H z=>([(0,.st 0 clS z)],[(0,.tip (tpe 1 (List.length z)) (List.length z))])⟩
 let jl1:Jn 14 (List Str×Int):=⟨fun fr H z=>([(0,.st 0 clS z.1),(3,.ptr 1 0),(5,.i z.2)],[(0,.tip (tpe 1 (List.length z.1)) (List.length z.1)),(1,oH H 256)])⟩
 let jn3:Jn 16 (List Str):=⟨fun fr H z=>([(0,.st 0 clS z),(3,.ptr 1 0),(5,(lk 5 fr))],[(0,.tip (tpe 1 (List.length z)) (List.length z)),(1,oH H 1)])⟩
 let jn4:Jn 22 (Str):=⟨fun fr H z=>([(0,ow (.tag 0) (lk 0 fr)),(3,.ptr 1 0),(5,(lk 5 fr)),(6,.str z),(7,.str [34])],[(0,oH H 0),(1,oH H 1)])⟩
 let jn5:Jn 24 (Str):=⟨fun fr H z=>([(0,ow (.tag 0) (lk 0 fr)),(3,.ptr 1 0),(5,(lk 5 fr)),(6,(lk 6 fr)),(7,.str z)],[(0,oH H 0),(1,oH H 1)])⟩
 let jn6:Jn 35 (List Str):=⟨fun fr H z=>([(0,.st 0 clS z)],[(0,.tip (tpe 1 (List.length z)) (List.length z))])⟩
 let jn7:Jn 44 (List Str):=⟨fun fr H z=>([(0,.st 0 clS z)],[(0,.tip (tpe 1 (List.length z)) (List.length z))])⟩
 let jl2:Jn 38 (List Str×Int):=⟨fun fr H z=>([(0,.st 0 clS z.1),(3,.ptr 1 0),(8,.i z.2)],[(0,.tip (tpe 1 (List.length z.1)) (List.length z.1)),(1,oH H 256)])⟩
 let jn8:Jn 43 (List Str):=⟨fun fr H z=>([(0,.st 0 clS z),(3,.ptr 1 0),(8,(lk 8 fr))],[(0,.tip (tpe 1 (List.length z)) (List.length z)),(1,oH H 1)])⟩
 let ls:Nat->List Nat:=fun n=>cond (Nat.beq n 28) [256] (cond (Nat.beq n 26) [256] ([]))
 exact blk⟩
theorem b4b (n:Nat){Φ:j6} [hΦ:j6.Ok Φ] {l1:List Str}{O3:List Nod}:a5D l1 O3 (a4d n Φ l1 O3):=⟨fun{r} h=>by
 unfold a4d at h
 refine A8 rfl Tryz.func87 rfl rfl ?_
 let kr:=fun r:List Str=>a1Q env 87 1 Tryz.f87.results.toList (a9m l1 O3 r)
 let jn1:Jn 9 (List Str):=⟨fun fr H z=>([(0,.st 0 clS z)],[(0,.tip (tpe 1 (List.length z)) (List.length z))])⟩
 let jl1:Jn 3 (List Str×Int):=⟨fun fr H z=>([(0,.st 0 clS z.1),(1,.sl F5 O3),(5,.i z.2)],[(0,.tip (tpe 1 (List.length z.1)) (List.length z.1))])⟩
 let jn2:Jn 8 (List Str):=⟨fun fr H z=>([(0,.st 0 clS z),(1,.sl F5 O3),(5,(lk 5 fr))],[(0,.tip (tpe 1 (List.length z)) (List.length z))])⟩
 exact blk⟩
theorem b1P (n:Nat){Φ:j6} [hΦ:j6.Ok Φ] {l1:List Str}{n2:Nod}:a3N l1 n2 (a1R n Φ l1 n2):=⟨fun{r} h=>by
 unfold a1R at h
 obtain⟨n2_0,n2_1,n2_2,⟨n2_3,n2_4,n2_5,n2_6⟩,n2_7,n2_8,n2_9⟩:=n2
 refine A8 rfl Tryz.func88 rfl rfl ?_
 let kr:=fun r:List Str=>a1Q env 88 1 Tryz.f88.results.toList (a6T l1 (Nod.mk n2_0 n2_1 n2_2 (Typ.mk n2_3 n2_4 n2_5 n2_6) n2_7 n2_8 n2_9) r)
 let jn1:Jn 40 (Unit):=⟨fun fr H z=>([(0,.st 0 clS l1)],[(0,.tip (tpe 1 (List.length l1)) (List.length l1))])⟩
 let jn2:Jn 25 (List Str):=⟨fun fr H z=>([(0,.st 0 clS z)],[(0,.tip (tpe 1 (List.length z)) (List.length z))])⟩
 let jn3:Jn 39 (List Str):=⟨fun fr H z=>([(0,.st 0 clS z)],[(0,.tip (tpe 1 (List.length z)) (List.length z))])⟩
 let jl1:Jn 31 (List Str×Int):=⟨fun fr H z=>([(0,.st 0 clS z.1),(3,.ptr 1 0),(5,.i z.2)],[(0,.tip (tpe 1 (List.length z.1)) (List.length z.1)),(1,oH H 256)])⟩
 let jn4:Jn 33 (List Str×Int):=⟨fun fr H z=>([(0,.st 0 clS z.1),(3,.ptr 1 0),(5,.i z.2)],[(0,.tip (tpe 1 (List.length z.1)) (List.length z.1)),(1,oH H 1)])⟩
 let jl2:Jn 35 (List Str×Int×Int):=⟨fun fr H z=>([(0,.st 0 clS z.1),(3,.ptr 1 0),(5,.i z.2.1),(6,.i z.2.2)],[(0,.tip (tpe 1 (List.length z.1)) (List.length z.1)),(1,oH H 1)])⟩
 let ls:Nat->List Nat:=fun n=>cond (Nat.beq n 17) [256] (cond (Nat.beq n 15) [256] (cond (Nat.beq n 13) [256] ([])))
 exact blk⟩
theorem b3r (n:Nat){Φ:j6} [hΦ:j6.Ok Φ] {l1:List Str}{n2:Nod}:a5h l1 n2 (P9 n Φ l1 n2):=⟨fun{r} h=>by
 unfold P9 at h
 obtain⟨n2_0,n2_1,n2_2,⟨n2_3,n2_4,n2_5,n2_6⟩,n2_7,n2_8,n2_9⟩:=n2
 refine A8 rfl Tryz.func127 rfl rfl ?_
 let kr:=fun r:List Str=>a1Q env 127 1 Tryz.f127.results.toList (a8u l1 (Nod.mk n2_0 n2_1 n2_2 (Typ.mk n2_3 n2_4 n2_5 n2_6) n2_7 n2_8 n2_9) r)
 let jn1:Jn 44 (Unit):=⟨fun fr H z=>([(0,.st 0 clS l1),(3,.ptr 1 0)],[(0,.tip (tpe 1 (List.length l1)) (List.length l1)),(1,oH H 256)])⟩
 let jn2:Jn 9 (List Str):=⟨fun fr H z=>([(0,.st 0 clS z)],[(0,.tip (tpe 1 (List.length z)) (List.length z))])⟩
 let jl1:Jn 5 (List Str×Int):=⟨fun fr H z=>([(0,.st 0 clS z.1),(3,.ptr 1 0),(5,.i z.2)],[(0,.tip (tpe 1 (List.length z.1)) (List.length z.1)),(1,oH H 256)])⟩
 let jn3:Jn 14 (List Str):=⟨fun fr H z=>([(0,.st 0 clS z),(3,.ptr 1 0)],[(0,.tip (tpe 1 (List.length z)) (List.length z)),(1,oH H 256)])⟩
 let jn4:Jn 18 (List Str):=⟨fun fr H z=>([(0,.st 0 clS z),(3,.ptr 1 0)],[(0,.tip (tpe 1 (List.length z)) (List.length z)),(1,oH H 1)])⟩
 let jn5:Jn 23 (List Str):=⟨fun fr H z=>([(0,.st 0 clS z)],[(0,.tip (tpe 1 (List.length z)) (List.length z))])⟩
 let jl2:Jn 18 (List Str×Int):=⟨fun fr H z=>([(0,.st 0 clS z.1),(3,.ptr 1 0),(6,.i z.2)],[(0,.tip (tpe 1 (List.length z.1)) (List.length z.1)),(1,oH H 1)])⟩
 let jn6:Jn 31 (List Str):=⟨fun fr H z=>([(0,.st 0 clS z)],[(0,.tip (tpe 1 (List.length z)) (List.length z))])⟩
 let jl3:Jn 25 (List Str×Int):=⟨fun fr H z=>([(0,.st 0 clS z.1),(3,.ptr 1 0),(7,.i z.2)],[(0,.tip (tpe 1 (List.length z.1)) (List.length z.1)),(1,oH H 256)])⟩
 let jn7:Jn 30 (List Str):=⟨fun fr H z=>([(0,.st 0 clS z),(3,.ptr 1 0),(7,(lk 7 fr))],[(0,.tip (tpe 1 (List.length z)) (List.length z)),(1,oH H 1)])⟩
 let jn8:Jn 30035 (Bool):=⟨fun fr H z=>([(0,.st 0 clS l1),(3,.ptr 1 0),(104,.bool z)],[(0,.tip (tpe 1 (List.length l1)) (List.length l1)),(1,oH H 256)])⟩
 let jn9:Jn 37 (List Str):=⟨fun fr H z=>([(0,.st 0 clS z),(3,.ptr 1 0)],[(0,.tip (tpe 1 (List.length z)) (List.length z)),(1,oH H 1)])⟩
 let jn10:Jn 39 (List Str):=⟨fun fr H z=>([(0,.st 0 clS z),(3,.ptr 1 0)],[(0,.tip (tpe 1 (List.length z)) (List.length z)),(1,oH H 1)])⟩
 let jn11:Jn 43 (List Str):=⟨fun fr H z=>([(0,.st 0 clS z)],[(0,.tip (tpe 1 (List.length z)) (List.length z))])⟩
 let jl4:Jn 39 (List Str×Int):=⟨fun fr H z=>([(0,.st 0 clS z.1),(3,.ptr 1 0),(8,.i z.2)],[(0,.tip (tpe 1 (List.length z.1)) (List.length z.1)),(1,oH H 1)])⟩
 exact blk⟩
theorem b1O (n:Nat){Φ:j6} [hΦ:j6.Ok Φ] {l1:List Str}{n2:Nod}:a3M l1 n2 (a0Y n Φ l1 n2):=⟨fun{r} h=>by
 unfold a0Y at h
 obtain⟨n2_0,n2_1,n2_2,⟨n2_3,n2_4,n2_5,n2_6⟩,n2_7,n2_8,n2_9⟩:=n2
 refine A8 rfl Tryz.func172 rfl rfl ?_
 let kr:=fun r:List Str=>a1Q env 172 1 Tryz.f172.results.toList (a6S l1 (Nod.mk n2_0 n2_1 n2_2 (Typ.mk n2_3 n2_4 n2_5 n2_6) n2_7 n2_8 n2_9) r)
 let jn1:Jn 43 (List Str):=⟨fun fr H z=>([(0,.st 0 clS z)],[(0,.tip (tpe 1 (List.length z)) (List.length z))])⟩
 let jn2:Jn 30005 (Bool):=⟨fun fr H z=>([(0,.st 0 clS l1),(3,.ptr 1 0),(10,.i n2_0),(11,.bool z)],[(0,.tip (tpe 1 (List.length l1)) (List.length l1)),(1,oH H 256)])⟩
 let jn3:Jn 8 (List Str):=⟨fun fr H z=>([(0,.st 0 clS z),(3,.ptr 1 0)],[(0,.tip (tpe 1 (List.length z)) (List.length z)),(1,oH H 1)])⟩
 let jl1:Jn 8 (List Str×Int):=⟨fun fr H z=>([(0,.st 0 clS z.1),(3,.ptr 1 0),(5,.i z.2)],[(0,.tip (tpe 1 (List.length z.1)) (List.length z.1)),(1,oH H 1)])⟩
 let jn4:Jn 10 (List Str):=⟨fun fr H z=>([(0,.st 0 clS z),(3,.ptr 1 0),(5,(lk 5 fr))],[(0,.tip (tpe 1 (List.length z)) (List.length z)),(1,oH H 1)])⟩
 let jn5:Jn 15 (List Str):=⟨fun fr H z=>([(0,.st 0 clS z),(3,.ptr 1 0),(5,(lk 5 fr))],[(0,.tip (tpe 1 (List.length z)) (List.length z)),(1,oH H 1)])⟩
 let jn6:Jn 28 (List Str):=⟨fun fr H z=>([(0,.st 0 clS z)],[(0,.tip (tpe 1 (List.length z)) (List.length z))])⟩
 let jl2:Jn 18 (List Str×Int):=⟨fun fr H z=>([(0,.st 0 clS z.1),(3,.ptr 1 0),(6,.i z.2)],[(0,.tip (tpe 1 (List.length z.1)) (List.length z.1)),(1,oH H 1)])⟩
 let jn7:Jn 20 (List Str):=⟨fun fr H z=>([(0,.st 0 clS z),(3,.ptr 1 0),(6,(lk 6 fr))],[(0,.tip (tpe 1 (List.length z)) (List.length z)),(1,oH H 1)])⟩
 let jl3:Jn 31 (List Str×Int):=⟨fun fr H z=>([(0,.st 0 clS z.1),(3,.ptr 1 0),(7,.i z.2)],[(0,.tip (tpe 1 (List.length z.1)) (List.length z.1)),(1,oH H 1)])⟩
 let jn8:Jn 36 (List Str):=⟨fun fr H z=>([(0,.st 0 clS z),(3,.ptr 1 0),(7,(lk 7 fr))],[(0,.tip (tpe 1 (List.length z)) (List.length z)),(1,oH H 1)])⟩
 let jl4:Jn 39 (List Str×Int):=⟨fun fr H z=>([(0,.st 0 clS z.1),(3,.ptr 1 0),(8,.i z.2)],[(0,.tip (tpe 1 (List.length z.1)) (List.length z.1)),(1,oH H 1)])⟩
 exact blk⟩
theorem b2J (n:Nat){Φ:j6} [hΦ:j6.Ok Φ] {l1:List Str}{n2:Nod}{around3:Bool}:a4q l1 n2 around3 (a2e n Φ l1 n2 around3):=⟨fun{r} h=>by
 unfold a2e at h
 obtain⟨n2_0,n2_1,n2_2,⟨n2_3,n2_4,n2_5,n2_6⟩,n2_7,n2_8,n2_9⟩:=n2
 refine A8 rfl Tryz.func149 rfl rfl ?_
 exact blk⟩
theorem j6.ok:∀n,j6.Ok (j6.fs n)
 | 0=>⟨⟨fun h=>by cases h⟩,⟨fun h=>by cases h⟩,⟨fun h=>by cases h⟩,⟨fun h=>by cases h⟩,⟨fun h=>by cases h⟩,⟨fun h=>by cases h⟩⟩
 | n+1=>have:=j6.ok n;⟨b3q n,b4b n,b1P n,b3r n,b1O n,b2J n⟩
instance ref02_spoken_I {n:Nat}{l1:List Str}{n2:Nod}:a5g l1 n2 (F3 n l1 n2):=(j6.ok n).F3
instance ref02_given_I {n:Nat}{l1:List Str}{O3:List Nod}:a5D l1 O3 (Y7 n l1 O3):=(j6.ok n).Y7
instance c3Y {n:Nat}{l1:List Str}{n2:Nod}:a3N l1 n2 (a0b n l1 n2):=(j6.ok n).a0b
instance ref02_stated_I {n:Nat}{l1:List Str}{n2:Nod}:a5h l1 n2 (J5 n l1 n2):=(j6.ok n).J5
instance c3X {n:Nat}{l1:List Str}{n2:Nod}:a3M l1 n2 (a0a n l1 n2):=(j6.ok n).a0a
instance c4q {n:Nat}{l1:List Str}{n2:Nod}{around3:Bool}:a4q l1 n2 around3 (T9 n l1 n2 around3):=(j6.ok n).T9
abbrev b2F (n1:Nod)(p:Option (Str)):Prop:=OkF env p 15 [.agg (c0 n1.op n1.s n1.n n1.t.kind n1.t.name n1.t.n (.sl C9 n1.t.args) (.sl C9 n1.ts) (.sl F5 n1.l) n1.at_)] [] (b1d n1)
instance c3f {n:Nat}{n1:Nod}:b2F n1 (a1p n n1):=⟨fun{r} h=>by
 unfold a1p at h
 obtain⟨n1_0,n1_1,n1_2,⟨n1_3,n1_4,n1_5,n1_6⟩,n1_7,n1_8,n1_9⟩:=n1
 refine A8 rfl Tryz.func15 rfl rfl ?_
 exact blk⟩
abbrev a5C (t1:Typ)(a2T:Int)(p:Option (Int)):Prop:=OkF env p 44 [.agg [.i t1.kind,.str t1.name,.i t1.n,.sl C9 t1.args],.i a2T] [] (a9l t1 a2T)
class K9.Ok (Φ:K9):Prop where
 a0n:∀{t1:Typ} {a2T:Int},a5C t1 a2T (Φ.a0n t1 a2T)
instance {Φ:K9} [h:K9.Ok Φ] {t1:Typ}{a2T:Int}:a5C t1 a2T (Φ.a0n t1 a2T):=h.a0n
theorem b4a (n:Nat){Φ:K9} [hΦ:K9.Ok Φ] {t1:Typ}{a2T:Int}:a5C t1 a2T (a4c n Φ t1 a2T):=⟨fun{r} h=>by
 unfold a4c at h
 obtain⟨t1_0,t1_1,t1_2,t1_3⟩:=t1
 refine A8 rfl Tryz.func44 rfl rfl ?_
 let kr:=fun r:Int=>a1Q env 44 0 Tryz.f44.results.toList (a9l (Typ.mk t1_0 t1_1 t1_2 t1_3) a2T r)
 let jn1:Jn 7 (Int):=⟨fun fr H z=>([(5,.i z)],[])⟩
 let jl1:Jn 3 (Int×Int):=⟨fun fr H z=>([(1,.i a2T),(2,.ptr 0 0),(5,.i z.1),(6,.i z.2)],[(0,oH H 192)])⟩
 let jn2:Jn 90016 (Bool):=⟨fun fr H z=>([(1,.i a2T),(2,.ptr 0 0),(5,(lk 5 fr)),(6,(lk 6 fr)),(16,.bool z)],[(0,oH H 0)])⟩
 exact blk⟩
theorem K9.ok:∀n,K9.Ok (K9.fs n)
 | 0=>⟨⟨fun h=>by cases h⟩⟩
 | n+1=>have:=K9.ok n;⟨b4a n⟩
instance ref02_Types_I {n:Nat}{t1:Typ}{a2T:Int}:a5C t1 a2T (a0n n t1 a2T):=(K9.ok n).a0n
abbrev b8j (a1N:Str)(p:Option (Typ×Flt)):Prop:=OkF env p 16 [.str a1N] [] (b0s a1N)
instance ref02_Type_I {n:Nat}{a1N:Str}:b8j a1N (a6R n a1N):=⟨fun{r} h=>by
 unfold a6R at h
 refine A8 rfl Tryz.func16 rfl rfl ?_
 let kr:=fun r:Typ×Flt=>a1Q env 16 0 Tryz.f16.results.toList (b0s a1N r)
 let jn1:Jn 30008 (Bool):=⟨fun fr H z=>([(2,.ptr 0 0),(3,.ptr 1 0),(6,.ptr 2 0),(7,.ptr 3 0),(39,.bool z)],[(0,.row [.i 0,.str [],.i 0,.slice (.tag 4) 0 []]),(1,oH H 256),(2,oH H 1536),(3,oH H 512),(4,.tip 0 0)])⟩
 let ls:Nat->List Nat:=fun n=>cond (Nat.beq n 3) [384] ([])
 exact blk⟩
abbrev b2u (t1:Typ)(p:Option (Str)):Prop:=OkF env p 17 [.agg [.i t1.kind,.str t1.name,.i t1.n,.sl C9 t1.args]] [] (b09 t1)
instance c22 {n:Nat}{t1:Typ}:b2u t1 (a0K n t1):=⟨fun{r} h=>by
 unfold a0K at h
 obtain⟨t1_0,t1_1,t1_2,t1_3⟩:=t1
 refine A8 rfl Tryz.func17 rfl rfl ?_
 exact blk⟩
abbrev b2G (t1:Typ)(p:Option (Str)):Prop:=OkF env p 18 [.agg [.i t1.kind,.str t1.name,.i t1.n,.sl C9 t1.args]] [] (b1e t1)
instance c3g {n:Nat}{t1:Typ}:b2G t1 (a0L n t1):=⟨fun{r} h=>by
 unfold a0L at h
 obtain⟨t1_0,t1_1,t1_2,t1_3⟩:=t1
 refine A8 rfl Tryz.func18 rfl rfl ?_
 exact blk⟩
abbrev b05 (expr1 typ2:Str)(p:Option (Bool)):Prop:=OkF env p 4 [.str expr1,.str typ2] [] (a5p expr1 typ2)
instance b06 {n:Nat}{expr1 typ2:Str}:b05 expr1 typ2 (a3o n expr1 typ2):=⟨fun{r} h=>by
 unfold a3o at h
 refine A8 rfl Tryz.func4 rfl rfl ?_
 let kr:=fun r:Bool=>a1Q env 4 0 Tryz.f4.results.toList (a5p expr1 typ2 r)
 let jn1:Jn 30003 (Bool):=⟨fun fr H z=>([(0,.str expr1),(1,.str typ2),(14,.bool z)],[])⟩
 let jn2:Jn 30006 (Bool):=⟨fun fr H z=>([(1,.str typ2),(30,.bool z)],[])⟩
 let jn3:Jn 30009 (Bool):=⟨fun fr H z=>([(45,.bool z)],[])⟩
 exact blk⟩
end Go.Proofs.YtmippldlhnajkaaGreatDoor
namespace Go.Proofs.YtmippldlhnajkaaGreatDoor
open Go Go.Vm
theorem b3y {a:Int}(h1:-9223372036854775808<=a)(h2:a<=9223372036854775807):w64 a=a:=by
 unfold w64
 simp only[IntKind.wrap,IntKind.bits,IntKind.signed]
 simp
 omega
theorem P5 {k:Nat}(h:k<=1000000000000):w64 ((k:Int)+1) =((k+1:Nat):Int):=by rw[b3y (by omega) (by omega)];rfl
theorem b9w (a b:Int):ltB a b=decide (a<b):=by unfold ltB;rfl
theorem a4N (a b:Int):eqB a b=decide (a=b):=by unfold eqB;rfl
theorem Z7 {a b:Int}(h:a<b):ltB a b=true:=by simp[ltB,h]
theorem Y5 {a b:Int}(h:¬a<b):ltB a b=false:=by simp[ltB,h]
theorem leB_t {a b:Int}(h:a<=b):leB a b=true:=by simp[leB,h]
theorem a3T {a b:Int}(h:a=b):eqB a b=true:=by simp[eqB,h]
theorem a0J {a b:Int}(h:¬a=b):eqB a b=false:=by simp[eqB,h]
theorem a90 (s:Str):eqS s s=true:=by simp[eqS]
theorem eqS_cons (a:UInt8)(r:Str):eqS (a::r) []=false:=by simp[eqS]
theorem Y3 {α:Type}{l:List α}{i:Nat}(h:i<l.length):idx' l (i:Int)=some l[i]:=by
 have h1:inR (i:Int) l.length=true:=by simp[inR,h]
 simp[idx',h1,h]
theorem c0G {α:Type}{b:Nat}{l m:List α}(h:(l.length+m.length)*(b+1)<=70368744177664):app b l m=some (l++m):=by
 unfold app leN
 rw[decide_eq_true h]
theorem b4B {α:Type}{l:List α}{a b:Nat}(h1:a<=b)(h2:b<=l.length):a9Q l (a:Int) (b:Int)=some ((l.take b).drop a):=by
 have h:inI (a:Int) (b:Int) l.length=true:=by simp[inI,h1,h2]
 simp[a9Q,h]
theorem drop_eq {α:Type}{l:List α}{i:Nat}(h:i<l.length):l.drop i=l[i]::l.drop (i+1):=List.drop_eq_getElem_cons h
def S2 {A B:Type}(Q:A->B->Prop)(p:Option A)(r:Option B):Prop:=∃a b,p=some a/\r=some b/\Q a b
theorem S2mk {A B:Type}{Q:A->B->Prop}{a:A}{b:B}(h:Q a b):S2 Q (some a) (some b):=⟨a,b,rfl,rfl,h⟩
theorem S2imp {A B:Type}{Q R:A->B->Prop}{p:Option A}{r:Option B}(h:S2 Q p r)(hi:∀a b,Q a b->R a b):S2 R p r:=by
 obtain⟨a,b,h1,h2,h3⟩:=h
 exact⟨a,b,h1,h2,hi a b h3⟩
def bS {α ρ β:Type}(x:Option (Lr α ρ))(f:α->Option β)(o:ρ->Option β):Option β:=match x with
 | none=>none
 | some (.brk a)=>f a
 | some (.out r)=>o r
def wt:List Str->Nat
 | []=>0
 | s::r=>s.length+1+wt r
theorem wt_cons (s:Str)(r:List Str):wt (s::r)=s.length+1+wt r:=rfl
theorem b7m:∀a b:List Str,wt (a++b)=wt a+wt b
 | [],b=>by simp[wt]
 | x::a,b=>by rw[List.cons_append,wt,wt,b7m a b];omega
theorem c2f:∀l:List Str,l.length<=wt l
 | []=>Nat.le_refl _
 | x::r=>by have:=c2f r;simp only[wt,List.length_cons];omega
def E2 (d c:Nat)(w a b:List Str):Prop:=a=b/\wt a+d<=wt w+c
section
variable {A B:Type} {Q:A->B->Prop}
theorem b2V {d c:Nat}{w:List Str}{p r:Option (List Str)}{f:List Str->Option A}{g:List Str->Option B}(H:S2 (E2 d c w) p r)(h:∀w':List Str,wt w'+d<=wt w+c->S2 Q (f w') (g w')):S2 Q (p.bind f) (r.bind g):=by
 obtain⟨a,b,rfl,rfl,rfl,hq⟩:=H
 exact h a hq
theorem app_s {l m:List Str}(h1:wt l<=4000000000000)(h2:m.length<=100):app 16 l m=some (l++m):=by
 have:=c2f l
 refine c0G ?_
 omega
theorem p_put {l m:List Str}{f:List Str->Option A}{R:Option B}(h1:wt l<=4000000000000)(h2:m.length<=100)(h:S2 Q (f (l++m)) R):S2 Q ((o5 m l).bind f) R:=by
 unfold o5
 rw[app_s h1 h2]
 exact h
theorem r_put {l m:List Str}{f:List Str->Option B}{R:Option A}(h1:wt l<=4000000000000)(h2:m.length<=100)(h:S2 Q R (f (l++m))):S2 Q R ((app 16 l m).bind f):=by
 rw[app_s h1 h2]
 exact h
theorem e2_ok {d c:Nat}{w a b:List Str}(h1:a=b)(h2:wt a+d<=wt w+c):S2 (E2 d c w) (some a) (some b):=S2mk ⟨h1,h2⟩
end
theorem NF:(∀{α β γ:Type} (x:Option α) (f:α->Option β) (g:β->Option γ),(x.bind f).bind g=x.bind fun a=>(f a).bind g) /\
  (∀{α β:Type} (a:α) (f:α->Option β),(some a).bind f=f a)/\(∀{α:Type} (a b:α),cond true a b=a)/\(∀{α:Type} (a b:α),cond false a b=b)/\(!true)=false/\(!false)=true /\
  (∀{α ρ:Type} (x:Option (Lr α ρ)) (k:α->Option ρ),a3m x k=bS x k some) /\
  (∀{α γ ρ:Type} (x:Option (Lr α ρ)) (k:α->Option (Lr γ ρ)),b8P x k=bS x k fun r=>some (.out r)) /\
  (∀{α ρ β δ:Type} (x:Option δ) (f:δ->Option (Lr α ρ)) (h:α->Option β) (o:ρ->Option β),bS (x.bind f) h o=x.bind fun a=>bS (f a) h o) /\
  (∀{α ρ β δ ε:Type} (x:Option (Lr δ ε)) (f:δ->Option (Lr α ρ)) (g:ε->Option (Lr α ρ)) (h:α->Option β) (o:ρ->Option β),bS (bS x f g) h o=bS x (fun a=>bS (f a) h o) fun b=>bS (g b) h o) /\
  (∀{α ρ β γ:Type} (x:Option (Lr α ρ)) (f:α->Option β) (o:ρ->Option β) (h:β->Option γ),(bS x f o).bind h=bS x (fun a=>(f a).bind h) fun b=>(o b).bind h) /\
  (∀{α ρ β:Type} (a:α) (f:α->Option β) (o:ρ->Option β),bS (some (.brk a)) f o=f a)/\(∀{α ρ β:Type} (r:ρ) (f:α->Option β) (o:ρ->Option β),bS (some (.out r)) f o=o r):=by
 refine⟨fun x f g=>?_,fun _ _=>rfl,fun _ _=>rfl,fun _ _=>rfl,rfl,rfl,fun x f=>?_,fun x f=>?_,fun x f h o=>?_,fun x f g h o=>?_,fun x f o h=>?_,fun _ _ _=>rfl,fun _ _ _=>rfl⟩<;>(rcases x with _|x)<;>first|rfl |(cases x<;>rfl)
theorem e2_w {d c d' c':Nat}{w w':List Str}{p r:Option (List Str)}(H:S2 (E2 d c w) p r)(h:∀x:Nat,x+d<=wt w+c->x+d'<=wt w'+c'):S2 (E2 d' c' w') p r:=S2imp H fun a b h1=>⟨h1.1,h _ h1.2⟩
theorem WT:(∀a b:List Str,wt (a++b)=wt a+wt b)/\(∀(s:Str) (r:List Str),wt (s::r)=s.length+1+wt r)/\wt []=0/\(∀{α:Type} (a:α) (l:List α),(a::l).length=l.length+1)/\(∀{α:Type},([]:List α).length=0)/\(∀{α:Type} (a b:List α),(a++b).length=a.length+b.length):=⟨b7m,wt_cons,rfl,fun _ _=>rfl,rfl,fun _ _=>List.length_append⟩
theorem pt {P:Prop}(x:P:=by
 repeat' first
 | with_reducible assumption
 |(with_reducible intro _ h;replace h:=h;simp only[WT]at h)
 | with_reducible intro _
 |(simp only[NF,a4N,Int.reduceEq,decide_false,decide_true])
 |(simp (disch:=assumption) only[NF,Z7,Y5,a0J,a3T])
 | with_reducible refine p_put ?_ ?_ ?_
 | with_reducible refine r_put ?_ ?_ ?_
 | with_reducible refine b2V (ih1 _ ?_) ?_
 | with_reducible refine b2V (ih2 _ ?_) ?_
 | with_reducible refine b2V (ih3 _ ?_) ?_
 | with_reducible refine b2V (ih4 _ ?_) ?_
 | with_reducible refine e2_w (ih1 _ ?_) ?_
 | with_reducible refine e2_w (ih2 _ ?_) ?_
 | with_reducible refine e2_ok ?_ ?_
 | exact rfl
 |(simp only[List.append_assoc,List.cons_append,List.nil_append];done)
 | omega
 |(simp only[WT];omega)):P:=x
mutual
def Typ.sz:Typ->Nat
 |⟨_,_,_,a⟩=>1+szT a
def szT:List Typ->Nat
 | []=>0
 | x::r=>x.sz+szT r
end
theorem tsz (k:Int)(s:Str)(n:Int)(a:List Typ):(⟨k,s,n,a⟩:Typ).sz=1+szT a:=rfl
theorem Typ.a7y (x:Typ):x.sz=1+szT x.args:=by cases x;rfl
theorem c3j:szT []=0:=rfl
theorem a8z (x:Typ)(r:List Typ):szT (x::r)=x.sz+szT r:=rfl
theorem a9d:∀a b:List Typ,szT (a++b)=szT a+szT b
 | [],b=>by simp[szT]
 | x::a,b=>by rw[List.cons_append,szT,szT,a9d a b];omega
theorem a9e:∀l:List Typ,l.length<=szT l
 | []=>Nat.le_refl _
 | x::r=>by have:=a9e r;have:=x.a7y;simp only[szT,List.length_cons];omega
theorem b4D {x:Typ}:∀{l:List Typ},x∈l->x.sz<=szT l
 | y::r,h=>by
  simp only[szT]
  rcases List.mem_cons.1 h with rfl|h
  ·omega
  ·have:=b4D h;omega
inductive GT:Typ->Prop
 | mk {k:Int} {s:Str} {n:Int} {a:List Typ}:s.length<=20000 ->(k=8->a.length<=1) ->(∀x∈a,GT x)->GT ⟨k,s,n,a⟩
section
variable {n n':Nat} {Φ:o9} {Ψ:H8}
theorem c2O {t:Typ}(hL:t.args.length<=1000000000)(H:∀x∈t.args,∀w,wt w+100000*x.sz<=2000000000000->S2 (E2 2 (100000*x.sz) w) (Φ.F9 x w) (Ψ.L9 w x)):∀(m m' i:Nat) (w:List Str),t.args.length<m+i->t.args.length<m'+i->i<=t.args.length->wt w+100000*szT (t.args.drop i)+2<=2000000000000->S2 (E2 0 (100000*szT (t.args.drop i)) w) (O0 n Φ t.args m i w) (a3i n' Ψ t m' w i)
 | 0,_,_,_,_,_,_,_=>by omega
 | _+1,0,_,_,_,_,_,_=>by omega
 | m+1,m'+1,i,w,h1,h2,h3,h4=>by
  rw[O0.eq_2,a3i.eq_2]
  rcases Nat.lt_or_ge i t.args.length with h|h
  ·have hl:=a9e (t.args.drop i)
   rw[List.length_drop]at hl
   have hd:=drop_eq h
   rw[hd,a8z]at h4 hl ⊢
   have ih1:=fun w=>H t.args[i] (List.getElem_mem h) w
   have ih2:=fun w=>c2O hL H m m' (i+1) w (by omega) (by omega) (by omega)
   rw[Z7 (show(i:Int)<(t.args.length:Int)by omega),Y3 h,P5 (by omega)]
   rcases Nat.eq_zero_or_pos i with rfl|hi
   ·rw[Y5 (show ¬(0:Int)<((0:Nat):Int)by omega)]
    exact pt
   ·rw[Z7 (show(0:Int)<(i:Int)by omega)]
    exact pt
  ·rw[Y5 (by omega)]
   exact pt
theorem c2N {k:Int}{s:Str}{nn:Int}{a:List Typ}{z:Typ}(hL:a.length<=1000000000)(H:∀x∈a,∀w,wt w+100000*x.sz<=2000000000000->S2 (E2 2 (100000*x.sz) w) (Φ.F9 x w) (Ψ.L9 w x)):∀(m m' i:Nat) (w:List Str),a.length<m+i->a.length<m'+i->i<=a.length->wt w+100000*szT (a.drop i)+2<=2000000000000->S2 (E2 0 (100000*szT (a.drop i)) w) (O0 n Φ a m i w) (a2d n' Ψ ⟨k,s,nn,a++[z]⟩ m' w i)
 | 0,_,_,_,_,_,_,_=>by omega
 | _+1,0,_,_,_,_,_,_=>by omega
 | m+1,m'+1,i,w,h1,h2,h3,h4=>by
  rw[O0.eq_2,a2d.eq_2]
  have hl:=a9e (a.drop i)
  rw[List.length_drop]at hl
  rw[P5 (by omega)]
  have he:((a++[z]).length:Int) =(a.length:Int)+1:=by simp
  simp only[he]
  rcases Nat.lt_or_ge i a.length with h|h
  ·have hd:=drop_eq h
   rw[hd,a8z]at h4 hl ⊢
   have ih1:=fun w=>H a[i] (List.getElem_mem h) w
   have ih2:=fun w=>c2N (k:=k) (s:=s) (nn:=nn) (z:=z) hL H m m' (i+1) w (by omega) (by omega) (by omega)
   have hx:idx' (a++[z]) (i:Int)=some a[i]:=by rw[Y3 (by simp;omega)];simp[h]
   rw[Z7 (show(i:Int)<(a.length:Int)by omega),Y3 h,Z7 (show((i+1:Nat):Int)<(a.length:Int)+1 by omega),hx]
   rcases Nat.eq_zero_or_pos i with rfl|hi
   ·rw[Y5 (show ¬(0:Int)<((0:Nat):Int)by omega)]
    exact pt
   ·rw[Z7 (show(0:Int)<(i:Int)by omega)]
    exact pt
  ·rw[Y5 (by omega),Y5 (show ¬((i+1:Nat):Int)<(a.length:Int)+1 by omega)]
   exact pt
end
theorem fs_typ (n:Nat)(h:1<=n)(t:Typ)(w:List Str):(o9.fs n).F9 t w=a1V (n-1) (o9.fs (n-1)) t w:=by
 obtain⟨m,rfl⟩:∃m,n=m+1:=⟨n-1,by omega⟩
 rfl
theorem fs_args (n:Nat)(h:1<=n)(t:List Typ)(w:List Str):(o9.fs n).M9 t w=a1t (n-1) (o9.fs (n-1)) t w:=by
 obtain⟨m,rfl⟩:∃m,n=m+1:=⟨n-1,by omega⟩
 rfl
theorem a96 (n:Nat)(h:1<=n)(t:List Typ)(w:List Str):(o9.fs n).M7 t w=O0 (n-1) (o9.fs (n-1)) t (n-1) 0 w:=by
 obtain⟨m,rfl⟩:∃m,n=m+1:=⟨n-1,by omega⟩
 rfl
theorem fs_typed (n:Nat)(h:1<=n)(t:Typ)(w:List Str):(H8.fs n).L9 w t=a4h (n-1) (H8.fs (n-1)) w t:=by
 obtain⟨m,rfl⟩:∃m,n=m+1:=⟨n-1,by omega⟩
 rfl
theorem typ_ok {t:Typ}(g:GT t):∀(n n':Nat) (w:List Str),10*t.sz+10<=n->10*t.sz+10<=n'->wt w+100000*t.sz<=2000000000000->S2 (E2 2 (100000*t.sz) w) ((o9.fs n).F9 t w) ((H8.fs n').L9 w t):=by
 induction g with
 | @mk k s nn a hs h8 ha IH =>
  intro n n' w hn hn' hw
  rw[tsz]at hn hn' hw ⊢
  have hl:=a9e a
  rw[fs_typ n (by omega),fs_typed n' (by omega)]
  have H:∀q q',10*szT a+10<=q->10*szT a+10<=q' -> ∀x∈a,∀w,wt w+100000*x.sz<=2000000000000->S2 (E2 2 (100000*x.sz) w) ((o9.fs q).F9 x w) ((H8.fs q').L9 w x):=fun q q' h1 h2 x hx w h3=>by
   have:=b4D hx
   exact IH x hx q q' w (by omega) (by omega) h3
  have L38:=fun w=>c2O (n:=n-1-1-1) (n':=n'-1) (t:=⟨k,s,nn,a⟩) (show a.length<=_ by omega) (H (n-1-1-1) (n'-1) (by omega) (by omega)) (n-1-1-1) (n'-1) 0 w (show a.length<_ by omega) (show a.length<_ by omega) (Nat.zero_le _)
  simp only[List.drop_zero]at L38
  have AR:∀w,wt w+100000*szT a<=1999999999000->S2 (E2 0 (100000*szT a+4) w) ((o9.fs (n-1)).M9 a w) (cond (ltB 0 (List.length a:Int)) ((app 16 w ([[60]]:List Str)).bind fun l21=>Option.bind (α:=List Str) (a3i (n'-1) (H8.fs (n'-1)) ⟨k,s,nn,a⟩ (n'-1) l21 0) fun l550=>(app 16 l550 ([[62]]:List Str)).bind fun l25=>some l25) (some w)):=fun w hw=>by
   have ih1:=L38
   rw[fs_args (n-1) (by omega)]
   unfold a1t
   simp only[a96 (n-1-1) (by omega)]
   rcases Nat.eq_zero_or_pos a.length with h0|h0
   ·rw[Y5 (by omega)]
    exact pt
   ·rw[Z7 (by omega)]
    exact pt
  have ih1:=AR
  unfold a1V a4h
  rcases Classical.em (k=1)with rfl|k1
  ·exact pt
  rcases Classical.em (k=2)with rfl|k2
  ·exact pt
  rcases Classical.em (k=3)with rfl|k3
  ·exact pt
  rcases Classical.em (k=4)with rfl|k4
  ·exact pt
  rcases Classical.em (k=5)with rfl|k5
  ·exact pt
  rcases Classical.em (k=11)with rfl|k11
  ·exact pt
  rcases Classical.em (k=9)with rfl|k9
  ·exact pt
  rcases Classical.em (k=8)with rfl|k8
  ·have h1:=h8 rfl
   have hb:∀w,wt w+100000*szT a<=1999999999000->S2 (E2 0 (100000*szT a) w) ((o9.fs (n-1)).M7 a w) (a3h (n'-1) (H8.fs (n'-1)) ⟨8,s,nn,a⟩ (n'-1) w 0):=fun w hw=>by
    rw[a96 (n-1) (by omega)]
    obtain⟨m,hm⟩:∃m,n-1-1=m+2:=⟨n-1-1-2,by omega⟩
    obtain⟨m',hm'⟩:∃m,n'-1=m+2:=⟨n'-1-2,by omega⟩
    have H1:=H (n-1-1) (n'-1) (by omega) (by omega)
    rw[hm,hm']at H1 ⊢
    rw[O0.eq_2,a3h.eq_2]
    have c0:ltB 0 ((0:Nat):Int)=false:=Y5 (by omega)
    have c1:ltB 0 ((1:Nat):Int)=true:=Z7 (by omega)
    have c2:ltB 1 ((1:Nat):Int)=false:=Y5 (by omega)
    have c3:ltB 0 0=false:=Y5 (by omega)
    rcases a with _ |⟨x,_ |⟨y,a⟩⟩
    ·simp only[List.length_nil,c0]
     exact pt
    ·have ih1:=fun w=>H1 x (List.mem_singleton.2 rfl) w
     simp only[O0.eq_2,a3h.eq_2]
     have e1:idx' [x] 0=some x:=Y3 (l:=[x]) (i:=0) (by simp)
     have e2:w64 (0+1)=1:=by decide
     simp only[a8z,c3j]at hw ⊢
     simp only[List.length_singleton,e1,e2,c0,c1,c2,c3]
     exact pt
    ·simp only[List.length_cons]at h1;omega
   have ih1:=hb
   exact pt
  rcases Classical.em (k=10)with rfl|k10
  ·rcases List.eq_nil_or_concat a with rfl |⟨b,z,rfl⟩
   ·obtain⟨m,hm⟩:∃m,n-1-1=m+2:=⟨n-1-1-2,by omega⟩
    obtain⟨m',hm'⟩:∃m,n'-1=m+2:=⟨n'-1-2,by omega⟩
    have e1:(max (w64 (((([]:List Typ).length:Nat):Int)-1)) 0)=0:=by decide
    have e2:a9Q ([]:List Typ) 0 0=some []:=b4B (l:=[]) (a:=0) (b:=0) (by omega) (by simp)
    have e3:∀w,(o9.fs (n-1)).M7 [] w=some w:=fun w=>by
     rw[a96 (n-1) (by omega),hm,O0.eq_2,b9w]
     rfl
    have e4:∀w,a2d (n'-1) (H8.fs (n'-1)) ⟨10,s,nn,[]⟩ (n'-1) w 0=some w:=fun w=>by
     rw[hm',a2d.eq_2,b9w]
     rfl
    have e5:ltB 0 (((([]:List Typ).length:Nat):Int))=false:=by rw[b9w];decide
    simp only[e1,e4,e5]
    simp only[List.length_nil,Int.natCast_zero,NF,a4N,Int.reduceEq,decide_false,decide_true,e2,e3]
    exact pt
   ·simp only[List.concat_eq_append]at *
    simp only[a9d,a8z,c3j,List.length_append,List.length_singleton]at *
    have e0:w64 (((b.length+1:Nat):Int)-1) =(b.length:Int):=by rw[b3y (by omega) (by omega)];omega
    have e1:max (b.length:Int) 0 =(b.length:Int):=by omega
    have e2:a9Q (b++[z]) 0 (b.length:Int)=some b:=by
     have:=b4B (l:=b++[z]) (a:=0) (b:=b.length) (by omega) (by simp)
     rw[List.drop_zero,List.take_left]at this
     exact this
    have e3:a9Q (b++[z]) (b.length:Int) ((b.length+1:Nat):Int)=some [z]:=by
     have:=b4B (l:=b++[z]) (a:=b.length) (b:=b.length+1) (by omega) (by simp)
     rw[List.take_of_length_le (by simp),List.drop_left]at this
     exact this
    have e4:idx' (b++[z]) (b.length:Int)=some z:=by rw[Y3 (by simp)];simp
    have ih1:=fun w=>c2N (n:=n-1-1) (n':=n'-1) (k:=10) (s:=s) (nn:=nn) (a:=b) (z:=z) (by omega) (fun x hx=>H (n-1-1) (n'-1) (by omega) (by omega) x (List.mem_append_left _ hx)) (n-1-1) (n'-1) 0 w (by omega) (by omega) (Nat.zero_le _)
    have ih2:=fun w=>H (n-1-1) (n'-1) (by omega) (by omega) z (List.mem_append_right _ (List.mem_singleton.2 rfl)) w
    have e5:∀w,(o9.fs (n-1)).M7 [z] w =((o9.fs (n-1-1)).F9 z w).bind some:=fun w=>by
     obtain⟨m,hm⟩:∃m,n-1-1=m+2:=⟨n-1-1-2,by omega⟩
     rw[a96 (n-1) (by omega),hm,O0.eq_2]
     have e1:idx' [z] 0=some z:=Y3 (l:=[z]) (i:=0) (by simp)
     have e2:w64 (0+1)=1:=by decide
     simp only[List.length_singleton,e1,e2,b9w]
     simp only[NF,O0.eq_2,List.length_singleton,b9w]
     rfl
    simp only[List.drop_zero]at ih1
    have h1:ltB 0 ((b.length+1:Nat):Int)=true:=Z7 (by omega)
    simp only[NF,a4N,Int.reduceEq,decide_false,decide_true,e0,e1,e2,e3,e4,e5,h1,a96 (n-1) (by omega) b]
    exact pt
  ·simp only[a0J k1,a0J k2,a0J k3,a0J k4,a0J k5,a0J k11,a0J k9,a0J k8,a0J k10]
   exact pt
end Go.Proofs.YtmippldlhnajkaaGreatDoor
namespace Go.Proofs.YtmippldlhnajkaaGreatDoor
open Go Go.Vm
mutual
def Nod.sz:Nod->Nat
 |⟨_,_,_,t,ts,l,_⟩=>1+t.sz+szT ts+szN l
def szN:List Nod->Nat
 | []=>0
 | x::r=>x.sz+szN r
end
theorem Nod.a7y (x:Nod):x.sz=1+x.t.sz+szT x.ts+szN x.l:=by cases x;rfl
theorem b4C:szN []=0:=rfl
theorem a4j (x:Nod)(r:List Nod):szN (x::r)=x.sz+szN r:=rfl
theorem b52:∀a b:List Nod,szN (a++b)=szN a+szN b
 | [],b=>by simp[szN]
 | x::a,b=>by rw[List.cons_append,szN,szN,b52 a b];omega
theorem V3:∀l:List Nod,l.length<=szN l
 | []=>Nat.le_refl _
 | x::r=>by have:=V3 r;have:=x.a7y;simp only[szN,List.length_cons];omega
theorem Z4 {x:Nod}:∀{l:List Nod},x∈l->x.sz<=szN l
 | y::r,h=>by
  simp only[szN]
  rcases List.mem_cons.1 h with rfl|h
  ·omega
  ·have:=Z4 h;omega
theorem SZ:(∀(op:Int) (s:Str) (n:Int) (t:Typ) (ts:List Typ) (l:List Nod) (a:Int),(⟨op,s,n,t,ts,l,a⟩:Nod).sz=1+t.sz+szT ts+szN l)/\(∀(k:Int) (s:Str) (n:Int) (a:List Typ),(⟨k,s,n,a⟩:Typ).sz=1+szT a)/\szT []=0/\szN []=0/\(∀(x:Nod) (r:List Nod),szN (x::r)=x.sz+szN r) /\ ∀a b:List Nod,szN (a++b)=szN a+szN b :=
 ⟨fun _ _ _ _ _ _ _=>rfl,fun _ _ _ _=>rfl,rfl,rfl,fun _ _=>rfl,b52⟩
@[reducible] def zT:Typ:=⟨0,[],0,[]⟩
inductive G:Nat->Nod->Prop
 | int {n a:Int}:0<=n->n<=9223372036854775807->G 0 ⟨50,[],n,zT,[],[],a⟩
 | truth {n a:Int}:G 0 ⟨51,[],n,zT,[],[],a⟩
 | text {s:Str} {a:Int}:s.length<=20000->G 0 ⟨52,s,0,zT,[],[],a⟩
 | interp {l:List Nod} {a:Int}:(∀x∈l,G 0 x)->3<=l.length->l.length%2=1->G 0 ⟨53,[],0,zT,[],l,a⟩
 | name {s:Str} {a:Int}:s.length<=20000->G 0 ⟨54,s,0,zT,[],[],a⟩
 | use {s:Str} {a:Int}:s.length<=20000->G 0 ⟨61,s,0,zT,[],[],a⟩
 | list {l:List Nod} {a:Int}:(∀x∈l,G 0 x)->G 0 ⟨67,[],0,zT,[],l,a⟩
 | clos {t:Typ} {p b:List Nod} {a a':Int}:GT t ->(∀x∈p,G 4 x) ->(∀x∈b,G 1 x)->G 0 ⟨63,[],0,t,[],p++[⟨20,[],0,zT,[],b,a'⟩],a⟩
 | bin {s:Str} {x y:Nod} {a:Int}:s.length<=20000->G 0 x->G 0 y->G 0 ⟨64,s,0,zT,[],[x,y],a⟩
 | un {op:Int} {x:Nod} {a:Int}:op=65∨op=66->G 0 x->G 0 ⟨op,[],0,zT,[],[x],a⟩
 | field {s:Str} {x:Nod} {a:Int}:s.length<=20000->G 0 x->G 0 ⟨55,s,0,zT,[],[x],a⟩
 | call {s:Str} {l:List Nod} {a:Int}:s.length<=20000 ->(∀x∈l,G 6 x)->G 0 ⟨56,s,0,zT,[],l,a⟩
 | method {s:Str} {x:Nod} {l:List Nod} {a:Int}:s.length<=20000->G 0 x ->(∀x∈l,G 6 x)->G 0 ⟨57,s,0,zT,[],x::l,a⟩
 | apply{x:Nod} {l:List Nod} {a:Int}:G 0 x ->(∀x∈l,G 6 x)->G 0 ⟨60,[],0,zT,[],x::l,a⟩
 | stat0 {t:Typ} {s:Str} {a:Int}:s.length<=20000->GT t->G 0 ⟨58,s,0,t,[],[],a⟩
 | stat1 {t:Typ} {s:Str} {l:List Nod} {a:Int}:s.length<=20000->GT t ->(∀x∈l,G 6 x)->G 0 ⟨58,s,1,t,[],l,a⟩
 | make {t:Typ} {l:List Nod} {a:Int}:GT t ->(∀x∈l,G 6 x)->G 0 ⟨59,[],0,t,[],l,a⟩
 | arg {x:Nod}:G 0 x->G 6 x
 | lend {x:Nod} {a:Int}:G 0 x->G 6 ⟨62,[],0,zT,[],[x],a⟩
 | let0 {s:Str} {n:Int} {t:Typ} {a:Int}:s.length<=20000 ->(t.kind=0∨GT t)->G 1 ⟨21,s,n,t,[],[],a⟩
 | let1 {s:Str} {n:Int} {t:Typ} {x:Nod} {a:Int}:s.length<=20000 ->(t.kind=0∨GT t)->G 0 x->G 1 ⟨21,s,n,t,[],[x],a⟩
 | assign {x y:Nod} {a:Int}:G 0 x->G 0 y->G 1 ⟨22,[],0,zT,[],[x,y],a⟩
 | sole {x:Nod} {a:Int}:G 0 x->G 1 ⟨23,[],0,zT,[],[x],a⟩
 | if2 {x b:Nod} {a:Int}:G 0 x->G 2 b->G 1 ⟨24,[],0,zT,[],[x,b],a⟩
 | if3 {x b c:Nod} {a:Int}:G 0 x->G 2 b->G 2 c->G 1 ⟨24,[],0,zT,[],[x,b,c],a⟩
 | if4 {x b c:Nod} {a:Int}:G 0 x->G 2 b->G 1 c->c.op=24->G 1 ⟨24,[],0,zT,[],[x,b,c],a⟩
 | whil {x b:Nod} {a:Int}:G 0 x->G 2 b->G 1 ⟨25,[],0,zT,[],[x,b],a⟩
 | mat {x:Nod} {l:List Nod} {a:Int}:G 0 x ->(∀y∈l,G 5 y)->G 1 ⟨26,[],0,zT,[],x::l,a⟩
 | ret0 {a:Int}:G 1 ⟨28,[],0,zT,[],[],a⟩
 | ret1 {x:Nod} {a:Int}:G 0 x->G 1 ⟨28,[],0,zT,[],[x],a⟩
 | throws {x:Nod} {a:Int}:G 0 x->G 1 ⟨29,[],0,zT,[],[x],a⟩
 | doc {s:Str} {b c:Nod} {a:Int}:s.length<=20000->G 2 b->G 2 c->G 1 ⟨30,s,0,zT,[],[b,c],a⟩
 | defer {b:Nod} {a:Int}:G 2 b->G 1 ⟨31,[],0,zT,[],[b],a⟩
 | block {l:List Nod} {a:Int}:(∀x∈l,G 1 x)->G 2 ⟨20,[],0,zT,[],l,a⟩
 | wild {a:Int}:G 3 ⟨40,[],0,zT,[],[],a⟩
 | bnd {s:Str} {a:Int}:s.length<=20000->G 3 ⟨41,s,0,zT,[],[],a⟩
 | pint {n a:Int}:(-9223372036854775808<=n/\n<=9223372036854775807)->G 3 ⟨42,[],n,zT,[],[],a⟩
 | ptruth {n a:Int}:(-9223372036854775808<=n/\n<=9223372036854775807)->G 3 ⟨43,[],n,zT,[],[],a⟩
 | ptext {s:Str} {a:Int}:s.length<=20000->G 3 ⟨44,s,0,zT,[],[],a⟩
 | pcase {s:Str} {l:List Nod} {a:Int}:s.length<=20000 ->(∀x∈l,G 3 x)->G 3 ⟨45,s,0,zT,[],l,a⟩
 | param {s:Str} {n:Int} {t:Typ} {a:Int}:s.length<=20000->GT t->G 4 ⟨10,s,n,t,[],[],a⟩
 | arm {p b:Nod} {a:Int}:G 3 p->G 2 b->G 5 ⟨27,[],0,zT,[],[p,b],a⟩
theorem G.slen {m:Nat}{x:Nod}(h:G m x):x.s.length<=20000:=by
 induction h<;>first|assumption|exact Nat.zero_le _
abbrev RE (x:Nod):Prop:=∀n n' w,40*x.sz+40<=n->40*x.sz+40<=n'->wt w+100000*x.sz<=2000000000000->S2 (E2 2 (100000*x.sz) w) ((j3.fs n).w9 x w) ((j6.fs n').F3 w x)
abbrev RS (x:Nod):Prop:=∀n n' w,40*x.sz+40<=n->40*x.sz+40<=n'->wt w+100000*x.sz<=2000000000000->S2 (E2 2 (100000*x.sz) w) ((j3.fs n).G8 x w) ((j6.fs n').J5 w x)
abbrev RB (x:Nod):Prop:=∀n n' w,40*x.sz+40<=n->40*x.sz+40<=n'->wt w+100000*x.sz<=2000000000000->S2 (E2 2 (100000*x.sz) w) ((j3.fs n).I4 x w) ((j6.fs n').J5 w x)
abbrev RP (x:Nod):Prop:=∀n n' w,40*x.sz+40<=n->40*x.sz+40<=n'->wt w+100000*x.sz<=2000000000000->S2 (E2 2 (100000*x.sz) w) ((p9.fs n).I8 x w) ((F8.fs n').R8 w x)
def RM (x:Nod):Prop:=∃s n t a,x =⟨10,s,n,t,[],[],a⟩/\s.length<=20000/\GT t
def RA (x:Nod):Prop:=∃p b a,x =⟨27,[],0,zT,[],[p,b],a⟩/\RP p/\RB b
def RR:Nat->Nod->Prop
 | 0=>RE|1=>RS|2=>fun x=>RB x/\x.op=20|3=>RP|4=>RM|5=>RA|_=>RE
theorem BSm {α:Type}(x:Option α):(x.bind fun r=>some r)=x:=by cases x<;>rfl
theorem LIT:(∀(x:Nod) (r:List Nod),idx' (x::r) 0=some x)/\(∀(x y:Nod) (r:List Nod),idx' (x::y::r) 1=some y)/\(∀(x y z:Nod) (r:List Nod),idx' (x::y::z::r) 2=some z) /\
  w64 (0+1)=1/\w64 (1+1)=2/\w64 (2+1)=3 /\
  (∀(x:Nod) (r:List Nod),ltB 0 (((x::r).length:Nat):Int)=true)/\(∀(x:Nod) (r:List Nod),eqB (((x::r).length:Nat):Int) 0=false)/\(∀(x y:Nod) (r:List Nod),ltB 1 (((x::y::r).length:Nat):Int)=true)/\(∀(x y z:Nod) (r:List Nod),ltB 2 (((x::y::z::r).length:Nat):Int)=true) /\
  ltB 0 ((([]:List Nod).length:Nat):Int)=false/\eqB ((([]:List Nod).length:Nat):Int) 0=true/\(∀x:Nod,ltB 1 ((([x]:List Nod).length:Nat):Int)=false)/\(∀x y:Nod,ltB 2 ((([x,y]:List Nod).length:Nat):Int)=false)/\(∀x y z:Nod,ltB 3 ((([x,y,z]:List Nod).length:Nat):Int)=false)/\ltB 0 0=false/\ltB 0 1=true /\
  (∀(x:Nod) (r:List Nod),r.length<=1000000000->a9Q (x::r) 1 (((x::r).length:Nat):Int)=some r) /\
  (∀(op:Int) (s:Str) (m:Int) (t:Typ) (ts:List Typ) (a:Int) (x:Nod) (r:List Nod),O5 ⟨op,s,m,t,ts,x::r,a⟩ 0=some x)/\(∀(op:Int) (s:Str) (m:Int) (t:Typ) (ts:List Typ) (a:Int) (x y:Nod) (r:List Nod),O5 ⟨op,s,m,t,ts,x::y::r,a⟩ 1=some y) /\
  (∀(op:Int) (s:Str) (m:Int) (t:Typ) (ts:List Typ) (a:Int) (x:Nod) (r:List Nod),r.length<=1000000000->a4u ⟨op,s,m,t,ts,x::r,a⟩ 1=some r):=by
 have i0:∀(x:Nod) (r:List Nod),idx' (x::r) 0=some x:=fun x r=>Y3 (l:=x::r) (i:=0) (by simp)
 have i1:∀(x y:Nod) (r:List Nod),idx' (x::y::r) 1=some y:=fun x y r=>Y3 (l:=x::y::r) (i:=1) (by simp)
 have i2:∀(x y z:Nod) (r:List Nod),idx' (x::y::z::r) 2=some z:=fun x y z r=>Y3 (l:=x::y::z::r) (i:=2) (by simp)
 have l0:∀(x:Nod) (r:List Nod),ltB 0 (((x::r).length:Nat):Int)=true:=fun x r=>Z7 (by simp only[List.length_cons];omega)
 have l1:∀(x y:Nod) (r:List Nod),ltB 1 (((x::y::r).length:Nat):Int)=true:=fun x y r=>Z7 (by simp only[List.length_cons];omega)
 have s1:∀(x:Nod) (r:List Nod),r.length<=1000000000->a9Q (x::r) 1 (((x::r).length:Nat):Int)=some r:=fun x r h=>by
  have:=b4B (l:=x::r) (a:=1) (b:=(x::r).length) (by simp) (Nat.le_refl _)
  rw[List.take_length]at this
  exact this
 refine⟨i0,i1,i2,by decide,by decide,by decide,l0,fun x r=>a0J (by simp only[List.length_cons];omega),l1,fun x y z r=>Z7 (by simp only[List.length_cons];omega),Y5 (by simp),a3T (by simp),fun x=>Y5 (by simp),fun x y=>Y5 (by simp),fun x y z=>Y5 (by simp),Y5 (by omega),Z7 (by omega),s1,fun op s m t ts a x r=>?_,fun op s m t ts a x y r=>?_,fun op s m t ts a x r h=>?_⟩
 ·unfold O5;simp only[l0,i0,cond_true,Option.bind_some]
 ·unfold O5;simp only[l1,i1,cond_true,Option.bind_some]
 ·unfold a4u
  rcases r with _ |⟨y,r⟩
  ·rw[Y5 (by simp),cond_false]
  ·simp only[l1,cond_true]
   rw[s1 _ _ h]
   rfl
theorem fe1 (n:Nat)(h:1<=n)(op:Int)(s:Str)(m:Int)(t:Typ)(ts:List Typ)(l:List Nod)(a:Int)(w:List Str):(j3.fs n).w9 ⟨op,s,m,t,ts,l,a⟩ w=Q7 (n-1) (j3.fs (n-1)) ⟨op,s,m,t,ts,l,a⟩ w:=by
 obtain⟨k,rfl⟩:∃k,n=k+1:=⟨n-1,by omega⟩
 rfl
theorem fe2 (n:Nat)(h:1<=n)(op:Int)(s:Str)(m:Int)(t:Typ)(ts:List Typ)(l:List Nod)(a:Int)(w:List Str):(j3.fs n).Q8 ⟨op,s,m,t,ts,l,a⟩ w=a0O (n-1) (j3.fs (n-1)) ⟨op,s,m,t,ts,l,a⟩ w:=by
 obtain⟨k,rfl⟩:∃k,n=k+1:=⟨n-1,by omega⟩
 rfl
theorem fe3 (n:Nat)(h:1<=n)(op:Int)(s:Str)(m:Int)(t:Typ)(ts:List Typ)(l:List Nod)(a:Int)(w:List Str):(j3.fs n).O7 ⟨op,s,m,t,ts,l,a⟩ w=a0y (n-1) (j3.fs (n-1)) ⟨op,s,m,t,ts,l,a⟩ w:=by
 obtain⟨k,rfl⟩:∃k,n=k+1:=⟨n-1,by omega⟩
 rfl
theorem fe4 (n:Nat)(h:1<=n)(op:Int)(s:Str)(m:Int)(t:Typ)(ts:List Typ)(l:List Nod)(a:Int)(w:List Str):(j3.fs n).G8 ⟨op,s,m,t,ts,l,a⟩ w=G6 (n-1) (j3.fs (n-1)) ⟨op,s,m,t,ts,l,a⟩ w:=by
 obtain⟨k,rfl⟩:∃k,n=k+1:=⟨n-1,by omega⟩
 rfl
theorem fe5 (n:Nat)(h:1<=n)(op:Int)(s:Str)(m:Int)(t:Typ)(ts:List Typ)(l:List Nod)(a:Int)(w:List Str):(j3.fs n).I4 ⟨op,s,m,t,ts,l,a⟩ w=a06 (n-1) (j3.fs (n-1)) ⟨op,s,m,t,ts,l,a⟩ w:=by
 obtain⟨k,rfl⟩:∃k,n=k+1:=⟨n-1,by omega⟩
 rfl
theorem fe6 (n:Nat)(h:1<=n)(op:Int)(s:Str)(m:Int)(t:Typ)(ts:List Typ)(l:List Nod)(a:Int)(w:List Str):(j3.fs n).X3 ⟨op,s,m,t,ts,l,a⟩ w=a1W (n-1) (j3.fs (n-1)) ⟨op,s,m,t,ts,l,a⟩ w:=by
 obtain⟨k,rfl⟩:∃k,n=k+1:=⟨n-1,by omega⟩
 rfl
theorem fe7 (n:Nat)(h:1<=n)(l:List Nod)(w:List Str):(j3.fs n).M4 l w=a1u (n-1) (j3.fs (n-1)) l w:=by
 obtain⟨k,rfl⟩:∃k,n=k+1:=⟨n-1,by omega⟩
 rfl
theorem fe8 (n:Nat)(h:1<=n)(l:List Nod)(w:List Str):(j3.fs n).V9 l w=a2n (n-1) (j3.fs (n-1)) l w:=by
 obtain⟨k,rfl⟩:∃k,n=k+1:=⟨n-1,by omega⟩
 rfl
theorem fe9 (n:Nat)(h:1<=n)(x:Nod)(w:List Str):(j3.fs n).J6 x w=a0m (n-1) (j3.fs (n-1)) x w:=by
 obtain⟨k,rfl⟩:∃k,n=k+1:=⟨n-1,by omega⟩
 rfl
theorem fr1 (n:Nat)(h:1<=n)(op:Int)(s:Str)(m:Int)(t:Typ)(ts:List Typ)(l:List Nod)(a:Int)(w:List Str):(j6.fs n).F3 w ⟨op,s,m,t,ts,l,a⟩=a0e (n-1) (j6.fs (n-1)) w ⟨op,s,m,t,ts,l,a⟩:=by
 obtain⟨k,rfl⟩:∃k,n=k+1:=⟨n-1,by omega⟩
 rfl
theorem fr2 (n:Nat)(h:1<=n)(l:List Nod)(w:List Str):(j6.fs n).Y7 w l=a4d (n-1) (j6.fs (n-1)) w l:=by
 obtain⟨k,rfl⟩:∃k,n=k+1:=⟨n-1,by omega⟩
 rfl
theorem fr3 (n:Nat)(h:1<=n)(op:Int)(s:Str)(m:Int)(t:Typ)(ts:List Typ)(l:List Nod)(a:Int)(w:List Str):(j6.fs n).a0b w ⟨op,s,m,t,ts,l,a⟩=a1R (n-1) (j6.fs (n-1)) w ⟨op,s,m,t,ts,l,a⟩:=by
 obtain⟨k,rfl⟩:∃k,n=k+1:=⟨n-1,by omega⟩
 rfl
theorem fr4 (n:Nat)(h:1<=n)(op:Int)(s:Str)(m:Int)(t:Typ)(ts:List Typ)(l:List Nod)(a:Int)(w:List Str):(j6.fs n).J5 w ⟨op,s,m,t,ts,l,a⟩=P9 (n-1) (j6.fs (n-1)) w ⟨op,s,m,t,ts,l,a⟩:=by
 obtain⟨k,rfl⟩:∃k,n=k+1:=⟨n-1,by omega⟩
 rfl
theorem fr5 (n:Nat)(h:1<=n)(op:Int)(s:Str)(m:Int)(t:Typ)(ts:List Typ)(l:List Nod)(a:Int)(w:List Str):(j6.fs n).a0a w ⟨op,s,m,t,ts,l,a⟩=a0Y (n-1) (j6.fs (n-1)) w ⟨op,s,m,t,ts,l,a⟩:=by
 obtain⟨k,rfl⟩:∃k,n=k+1:=⟨n-1,by omega⟩
 rfl
theorem fr6 (n:Nat)(h:1<=n)(x:Nod)(b:Bool)(w:List Str):(j6.fs n).T9 w x b=a2e (n-1) (j6.fs (n-1)) w x b:=by
 obtain⟨k,rfl⟩:∃k,n=k+1:=⟨n-1,by omega⟩
 rfl
theorem fp1 (n:Nat)(h:1<=n)(op:Int)(s:Str)(m:Int)(t:Typ)(ts:List Typ)(l:List Nod)(a:Int)(w:List Str):(p9.fs n).I8 ⟨op,s,m,t,ts,l,a⟩ w=Y4 (n-1) (p9.fs (n-1)) ⟨op,s,m,t,ts,l,a⟩ w:=by
 obtain⟨k,rfl⟩:∃k,n=k+1:=⟨n-1,by omega⟩
 rfl
theorem fp2 (n:Nat)(h:1<=n)(l:List Nod)(w:List Str):(p9.fs n).R6 l w=a05 (n-1) (p9.fs (n-1)) l w:=by
 obtain⟨k,rfl⟩:∃k,n=k+1:=⟨n-1,by omega⟩
 rfl
theorem fm1 (n:Nat)(h:1<=n)(op:Int)(s:Str)(m:Int)(t:Typ)(ts:List Typ)(l:List Nod)(a:Int)(w:List Str):(F8.fs n).R8 w ⟨op,s,m,t,ts,l,a⟩=a2b (n-1) (F8.fs (n-1)) w ⟨op,s,m,t,ts,l,a⟩:=by
 obtain⟨k,rfl⟩:∃k,n=k+1:=⟨n-1,by omega⟩
 rfl
theorem u18_0 {n m:Nat}{Ψ:j6}{op:Int}{s:Str}{k:Int}{t:Typ}{ts:List Typ}{a:Int}{w:List Str}(h:1<=m):a1S n Ψ ⟨op,s,k,t,ts,[],a⟩ m w 0=some w:=by
 obtain⟨q,rfl⟩:∃q,m=q+1:=⟨m-1,by omega⟩
 simp (disch:=omega) only[a1S.eq_2,LIT,NF,BSm,a4N,Int.reduceEq,decide_true,decide_false]
theorem u18_1 {n m:Nat}{Ψ:j6}{op:Int}{s:Str}{k:Int}{t:Typ}{ts:List Typ}{a:Int}{w:List Str}{x:Nod}(h:2<=m):a1S n Ψ ⟨op,s,k,t,ts,[x],a⟩ m w 0 =(app 16 w ([[61]]:List Str)).bind fun l12=>Ψ.F3 l12 x:=by
 obtain⟨q,rfl⟩:∃q,m=q+2:=⟨m-2,by omega⟩
 simp (disch:=omega) only[a1S.eq_2,LIT,NF,BSm,a4N,Int.reduceEq,decide_true,decide_false]
theorem u25 {n m:Nat}{Ψ:j6}{op:Int}{s:Str}{k:Int}{t:Typ}{ts:List Typ}{a:Int}{w:List Str}{x y:Nod}(h:3<=m):a3Q n Ψ ⟨op,s,k,t,ts,[x,y],a⟩ m w 0 =(Ψ.F3 w x).bind fun r=>(app 16 r ([[61]]:List Str)).bind fun l12=>Ψ.F3 l12 y:=by
 obtain⟨q,rfl⟩:∃q,m=q+3:=⟨m-3,by omega⟩
 simp (disch:=omega) only[a3Q.eq_2,LIT,NF,BSm,a4N,Int.reduceEq,decide_true,decide_false]
theorem u39_0 {n m:Nat}{Ψ:j6}{op:Int}{s:Str}{k:Int}{t:Typ}{ts:List Typ}{a:Int}{w:List Str}(h:1<=m):a1T n Ψ ⟨op,s,k,t,ts,[],a⟩ m w 0=some w:=by
 obtain⟨q,rfl⟩:∃q,m=q+1:=⟨m-1,by omega⟩
 simp (disch:=omega) only[a1T.eq_2,LIT,NF,BSm,a4N,Int.reduceEq,decide_true,decide_false]
theorem u39_1 {n m:Nat}{Ψ:j6}{op:Int}{s:Str}{k:Int}{t:Typ}{ts:List Typ}{a:Int}{w:List Str}{x:Nod}(h:2<=m):a1T n Ψ ⟨op,s,k,t,ts,[x],a⟩ m w 0=Ψ.F3 w x:=by
 obtain⟨q,rfl⟩:∃q,m=q+2:=⟨m-2,by omega⟩
 simp (disch:=omega) only[a1T.eq_2,LIT,NF,BSm,a4N,Int.reduceEq,decide_true,decide_false]
theorem u8_2 {n m:Nat}{Ψ:j6}{op:Int}{s:Str}{k:Int}{t:Typ}{ts:List Typ}{a:Int}{w:List Str}{x y:Nod}(h:3<=m):a1k n Ψ ⟨op,s,k,t,ts,[x,y],a⟩ m w 0 =(Ψ.F3 w x).bind fun r=>Ψ.J5 r y:=by
 obtain⟨q,rfl⟩:∃q,m=q+3:=⟨m-3,by omega⟩
 simp (disch:=omega) only[a1k.eq_2,LIT,NF,BSm,a4N,Int.reduceEq,decide_true,decide_false]
theorem u8_3 {n m:Nat}{Ψ:j6}{op:Int}{s:Str}{k:Int}{t:Typ}{ts:List Typ}{a:Int}{w:List Str}{x y z:Nod}(h:4<=m):a1k n Ψ ⟨op,s,k,t,ts,[x,y,z],a⟩ m w 0 =(Ψ.F3 w x).bind fun r=>(Ψ.J5 r y).bind fun q=>(app 16 q ([[101,108,115,101]]:List Str)).bind fun q=>Ψ.J5 q z:=by
 obtain⟨q,rfl⟩:∃q,m=q+4:=⟨m-4,by omega⟩
 simp (disch:=omega) only[a1k.eq_2,LIT,NF,BSm,a4N,Int.reduceEq,decide_true,decide_false]
theorem u31 {n m:Nat}{Ψ:j6}{op:Int}{s:Str}{k:Int}{t:Typ}{ts:List Typ}{a:Int}{w:List Str}{x y:Nod}(h:3<=m):a3a n Ψ ⟨op,s,k,t,ts,[x,y],a⟩ m w 0 =(Ψ.J5 w x).bind fun r=>(app 16 r ([[99,97,116,99,104],s]:List Str)).bind fun r=>Ψ.J5 r y:=by
 obtain⟨q,rfl⟩:∃q,m=q+3:=⟨m-3,by omega⟩
 simp (disch:=omega) only[a3a.eq_2,LIT,NF,BSm,a4N,Int.reduceEq,decide_true,decide_false]
theorem u39b {n m:Nat}{Ψ:j6}{op:Int}{s:Str}{k:Int}{t:Typ}{ts:List Typ}{a:Int}{w:List Str}{x:Nod}(h:2<=m):a3b n Ψ ⟨op,s,k,t,ts,[x],a⟩ m w 0=Ψ.J5 w x:=by
 obtain⟨q,rfl⟩:∃q,m=q+2:=⟨m-2,by omega⟩
 simp (disch:=omega) only[a3b.eq_2,LIT,NF,BSm,a4N,Int.reduceEq,decide_true,decide_false]
end Go.Proofs.YtmippldlhnajkaaGreatDoor
namespace Go.Proofs.YtmippldlhnajkaaGreatDoor
open Go Go.Vm
theorem a5y {n n':Nat}{Φ:j3}{Ψ:j6}{l:List Nod}(hL:l.length<=1000000000)(H:∀x∈l,∀w,wt w+100000*x.sz<=2000000000000->S2 (E2 2 (100000*x.sz) w) (Φ.w9 x w) (Ψ.F3 w x)):∀(m m' i:Nat) (w:List Str),l.length<m+i->l.length<m'+i->i<=l.length->wt w+100000*szN (l.drop i)+2<=2000000000000->S2 (E2 0 (100000*szN (l.drop i)) w) (a0V n Φ l m (i:Int) w) (a5a n' Ψ l m' w (i:Int))
 | 0,_,_,_,_,_,_,_=>by omega
 | _+1,0,_,_,_,_,_,_=>by omega
 | m+1,m'+1,i,w,h1,h2,h3,h4=>by
  rw[a0V.eq_2,a5a.eq_2]
  rcases Nat.lt_or_ge i l.length with h|h
  ·have hl:=V3 (l.drop i)
   rw[List.length_drop]at hl
   have hd:=drop_eq h
   rw[hd,a4j]at h4 hl ⊢
   have ih1:=fun w=>H l[i] (List.getElem_mem h) w
   have ih2:=fun w=>a5y (n:=n) (n':=n') (Φ:=Φ) (Ψ:=Ψ) hL H m m' (i+1) w (by omega) (by omega) (by omega)
   simp only[Z7 (show(i:Int)<(l.length:Int)by omega),Y3 h,P5 (show i<=1000000000000 by omega)]
   rcases Nat.eq_zero_or_pos i with rfl|hi
   ·simp only[Y5 (show ¬(0:Int)<((0:Nat):Int)by omega)]
    exact pt
   ·simp only[Z7 (show(0:Int)<(i:Int)by omega)]
    exact pt
  ·simp only[Y5 (show ¬(i:Int)<(l.length:Int)by omega)]
   exact pt
theorem b6L {n n':Nat}{Φ:j3}{Ψ:j6}{op:Int}{s:Str}{k:Int}{t:Typ}{ts:List Typ}{a:Int}{l:List Nod}(hL:l.length<=1000000000)(H:∀x∈l,∀w,wt w+100000*x.sz<=2000000000000->S2 (E2 2 (100000*x.sz) w) (Φ.w9 x w) (Ψ.F3 w x)):∀(m m' i:Nat) (w:List Str),l.length<m+i->l.length<m'+i->i<=l.length->wt w+100000*szN (l.drop i)+2<=2000000000000->S2 (E2 0 (100000*szN (l.drop i)) w) (a0V n Φ l m (i:Int) w) (a3P n' Ψ ⟨op,s,k,t,ts,l,a⟩ m' w (i:Int))
 | 0,_,_,_,_,_,_,_=>by omega
 | _+1,0,_,_,_,_,_,_=>by omega
 | m+1,m'+1,i,w,h1,h2,h3,h4=>by
  rw[a0V.eq_2,a3P.eq_2]
  rcases Nat.lt_or_ge i l.length with h|h
  ·have hl:=V3 (l.drop i)
   rw[List.length_drop]at hl
   have hd:=drop_eq h
   rw[hd,a4j]at h4 hl ⊢
   have ih1:=fun w=>H l[i] (List.getElem_mem h) w
   have ih2:=fun w=>b6L (n:=n) (n':=n') (Φ:=Φ) (Ψ:=Ψ) (op:=op) (s:=s) (k:=k) (t:=t) (ts:=ts) (a:=a) hL H m m' (i+1) w (by omega) (by omega) (by omega)
   simp only[Z7 (show(i:Int)<(l.length:Int)by omega),Y3 h,P5 (show i<=1000000000000 by omega)]
   rcases Nat.eq_zero_or_pos i with rfl|hi
   ·simp only[Y5 (show ¬(0:Int)<((0:Nat):Int)by omega)]
    exact pt
   ·simp only[Z7 (show(0:Int)<(i:Int)by omega)]
    exact pt
  ·simp only[Y5 (show ¬(i:Int)<(l.length:Int)by omega)]
   exact pt
theorem b5i {n n':Nat}{Φ:j3}{Ψ:j6}{op:Int}{s:Str}{k:Int}{t:Typ}{ts:List Typ}{a op':Int}{s':Str}{k':Int}{t':Typ}{ts':List Typ}{a':Int}{l:List Nod}(hL:l.length<=1000000000)(H:∀x∈l,∀w,wt w+100000*x.sz<=2000000000000->S2 (E2 2 (100000*x.sz) w) (Φ.G8 x w) (Ψ.J5 w x)):∀(m m' i:Nat) (w:List Str),l.length<m+i->l.length<m'+i->i<=l.length->wt w+100000*szN (l.drop i)+2<=2000000000000->S2 (E2 0 (100000*szN (l.drop i)) w) (a13 n Φ ⟨op,s,k,t,ts,l,a⟩ m (i:Int) w) (a4p n' Ψ ⟨op',s',k',t',ts',l,a'⟩ m' w (i:Int))
 | 0,_,_,_,_,_,_,_=>by omega
 | _+1,0,_,_,_,_,_,_=>by omega
 | m+1,m'+1,i,w,h1,h2,h3,h4=>by
  rw[a13.eq_2,a4p.eq_2]
  rcases Nat.lt_or_ge i l.length with h|h
  ·have hl:=V3 (l.drop i)
   rw[List.length_drop]at hl
   have hd:=drop_eq h
   rw[hd,a4j]at h4 hl ⊢
   have ih1:=fun w=>H l[i] (List.getElem_mem h) w
   have ih2:=fun w=>b5i (n:=n) (n':=n') (Φ:=Φ) (Ψ:=Ψ) (op:=op) (s:=s) (k:=k) (t:=t) (ts:=ts) (a:=a) (op':=op') (s':=s') (k':=k') (t':=t') (ts':=ts') (a':=a') hL H m m' (i+1) w (by omega) (by omega) (by omega)
   simp only[Z7 (show(i:Int)<(l.length:Int)by omega),Y3 h,P5 (show i<=1000000000000 by omega)]
   exact pt
  ·simp only[Y5 (show ¬(i:Int)<(l.length:Int)by omega)]
   exact pt
theorem recv {n n':Nat}{x:Nod}{w:List Str}(h1:1<=n)(h2:1<=n')(hx:∀w,wt w+100000*x.sz<=2000000000000->S2 (E2 2 (100000*x.sz) w) ((j3.fs (n-1)).w9 x w) ((j6.fs (n'-1)).F3 w x))(hw:wt w+100000*x.sz+2<=2000000000000):S2 (E2 0 (100000*x.sz+2) w) ((j3.fs n).J6 x w) ((a3F x).bind fun b=>(j6.fs n').T9 w x b):=by
 rw[fe9 n h1]
 unfold a0m a3F
 simp only[fr6 n' h2,a2e]
 have ih1:=hx
 cases eqB x.op 61<;>cases eqB x.op 63<;>cases eqB x.op 66<;>cases eqB x.op 65<;>exact pt
theorem t_recv {A B:Type}{Q:A->B->Prop}{n n':Nat}{x:Nod}{w:List Str}{f:List Str->Option A}{g:List Str->Option B}(hx:RE x)(h1:40*x.sz+41<=n)(h2:40*x.sz+41<=n')(hw:wt w+100000*x.sz+2<=2000000000000)(h:∀w':List Str,wt w'<=wt w+100000*x.sz+2->S2 Q (f w') (g w')):S2 Q (((j3.fs n).J6 x w).bind f) ((a3F x).bind fun b=>((j6.fs n').T9 w x b).bind g):=by
 have:=b2V (recv (n:=n) (n':=n') (by omega) (by omega) (fun w hw=>hx (n-1) (n'-1) w (by omega) (by omega) hw) hw) h
 simpa only[NF]using this
theorem b8v {n n':Nat}{t:Typ}(g:GT t)(w:List Str)(h1:10*t.sz+10<=n)(h2:10*t.sz+10<=n')(hw:wt w+100000*t.sz<=2000000000000):S2 (E2 2 (100000*t.sz) w) (F9 n t w) (L9 n' w t):=typ_ok g n n' w h1 h2 hw
theorem a7B {A B:Type}{Q:A->B->Prop}{s:Str}{f:Str->Option A}{R:Option B}(hs:s.length<=20000)(h:S2 Q (f (Rp.esc s)) R):S2 Q ((b33 s).bind f) R:=by
 unfold b33 leN
 rw[decide_eq_true (by omega)]
 exact h
theorem b4R {a b:Str}(h:a.length+b.length<=100000):cat a b=some (a++b):=by
 unfold cat
 rw[leB_t (by omega)]
theorem escs {s:Str}(hs:s.length<=20000):(b33 s=some (Rp.esc s)/\escR s=some (Rp.esc s))/\(Rp.esc s).length<=40000:=by
 have:=Rp.a94 s
 unfold b33 escR leN
 rw[decide_eq_true (by omega)]
 exact⟨⟨rfl,rfl⟩,by omega⟩
theorem b8n {n:Int}(h:-9223372036854775808<=n/\n<=9223372036854775807):rngB n=true:=by
 unfold rngB
 rw[decide_eq_true h.1,decide_eq_true h.2]
 rfl
theorem itoas {n:Int}(h:-9223372036854775808<=n/\n<=9223372036854775807):b3J n=some (Lib.itoa n):=by
 unfold b3J
 rw[b8n h]
theorem w64_rng (n:Int):-9223372036854775808<=w64 n/\w64 n<=9223372036854775807:=by
 unfold w64
 simp only[IntKind.wrap,IntKind.bits,IntKind.signed]
 simp
 omega
theorem sub1 {n:Int}(hn:-9223372036854775808<=n/\n<=9223372036854775807):subS (Lib.itoa n) 1 ((Lib.itoa n).length:Int)=some ((Lib.itoa n).drop 1):=by
 have h:=(b5a (b8n hn)).1
 have h1:inI 1 ((Lib.itoa n).length:Int) (Lib.itoa n).length=true:=by simp[inI];omega
 simp[subS,h1]
theorem wrT (n:Nat)(h:1<=n)(x:Nod)(w:List Str):(j6.fs n).T9 w x true =(app 16 w ([[40]]:List Str)).bind fun l5=>((j6.fs (n-1)).F3 l5 x).bind fun r6=>app 16 r6 ([[41]]:List Str):=by
 rw[fr6 n h]
 simp only[a2e,Bool.not_true,cond_false,BSm]
theorem LEN:(∀(x:Nod) (r:List Nod),decide ((((x::r).length:Nat):Int)=0)=false)/\decide (((([]:List Nod).length:Nat):Int)=0)=true:=⟨fun x r=>decide_eq_false (by simp only[List.length_cons];omega),by decide⟩
theorem p_put0 {B:Type}{Q:List Str->B->Prop}{l m:List Str}{R:Option B}(h1:wt l<=4000000000000)(h2:m.length<=100)(h:S2 Q (some (l++m)) R):S2 Q (o5 m l) R:=by
 unfold o5
 rw[app_s h1 h2]
 exact h
theorem r_put0 {B:Type}{Q:B->List Str->Prop}{l m:List Str}{R:Option B}(h1:wt l<=4000000000000)(h2:m.length<=100)(h:S2 Q R (some (l++m))):S2 Q R (app 16 l m):=by
 rw[app_s h1 h2]
 exact h
theorem pn {P:Prop}(x:P:=by
 repeat' first
 | with_reducible assumption
 |(with_reducible intro _ h;replace h:=h;simp only[WT]at h)
 | with_reducible intro _
 |(simp (disch:=omega) only[NF,fe1,fe2,fe3,fe4,fe5,fe6,fe7,fe8,fr1,fr2,fr3,fr4,fr5,wrT,LIT,LEN,BSm,SZ,a4N,Int.reduceEq,decide_false,decide_true,Q7,a1W,a1u,a2n,a0e,a1R,a4d])
 |(simp (disch:=omega) only[NF,fe1,fe2,fe3,fe4,fe5,fe6,fe7,fe8,fr1,fr2,fr3,fr4,fr5,wrT,LIT,LEN,BSm,SZ,a4N,Int.reduceEq,decide_false,decide_true,G6,a06,P9,a0Y,P9,a0Y,u18_0,u18_1,u25,u39_0,u39_1,u8_2,u8_3,u31,u39b])
 |(simp only[he,NF])
 | with_reducible refine p_put ?_ ?_ ?_
 | with_reducible refine r_put ?_ ?_ ?_
 | with_reducible refine p_put0 ?_ ?_ ?_
 | with_reducible refine r_put0 ?_ ?_ ?_
 | with_reducible refine b2V (ih1 _ ?_) ?_
 | with_reducible refine b2V (ih2 _ ?_) ?_
 | with_reducible refine b2V (hx _ _ _ ?_ ?_ ?_) ?_
 | with_reducible refine b2V (hy _ _ _ ?_ ?_ ?_) ?_
 | with_reducible refine b2V (hz _ _ _ ?_ ?_ ?_) ?_
 | with_reducible refine b2V (b8v hg _ ?_ ?_ ?_) ?_
 | with_reducible refine t_recv hx ?_ ?_ ?_ ?_
 | with_reducible refine e2_w (ih1 _ ?_) ?_
 | with_reducible refine e2_w (ih2 _ ?_) ?_
 | with_reducible refine e2_w (hx _ _ _ ?_ ?_ ?_) ?_
 | with_reducible refine e2_w (hy _ _ _ ?_ ?_ ?_) ?_
 | with_reducible refine e2_w (hz _ _ _ ?_ ?_ ?_) ?_
 | with_reducible refine e2_w (b8v hg _ ?_ ?_ ?_) ?_
 | with_reducible refine e2_ok ?_ ?_
 | exact rfl
 |(simp only[List.append_assoc,List.cons_append,List.nil_append];done)
 | omega
 |(simp only[WT];omega)):P:=x
section
variable {s:Str} {a:Int} {x y z:Nod} {l:List Nod} {t:Typ}
theorem E_name (hs:s.length<=20000):RE ⟨54,s,0,zT,[],[],a⟩:=fun n n' w hn hn' hw=>by
 simp only[SZ]at hn hn' hw
 exact pn
theorem E_use (hs:s.length<=20000):RE ⟨61,s,0,zT,[],[],a⟩:=fun n n' w hn hn' hw=>by
 simp only[SZ]at hn hn' hw
 exact pn
theorem E_bin (hs:s.length<=20000)(hx:RE x)(hy:RE y):RE ⟨64,s,0,zT,[],[x,y],a⟩:=fun n n' w hn hn' hw=>by
 simp only[SZ]at hn hn' hw
 exact pn
theorem E_neg (hx:RE x):RE ⟨66,[],0,zT,[],[x],a⟩:=fun n n' w hn hn' hw=>by
 simp only[SZ]at hn hn' hw
 exact pn
theorem E_not (hx:RE x):RE ⟨65,[],0,zT,[],[x],a⟩:=fun n n' w hn hn' hw=>by
 simp only[SZ]at hn hn' hw
 exact pn
theorem E_lend (hx:RE x):RE ⟨62,[],0,zT,[],[x],a⟩:=fun n n' w hn hn' hw=>by
 simp only[SZ]at hn hn' hw
 exact pn
theorem E_field (hs:s.length<=20000)(hx:RE x):RE ⟨55,s,0,zT,[],[x],a⟩:=fun n n' w hn hn' hw=>by
 simp only[SZ]at hn hn' hw
 exact pn
end
end Go.Proofs.YtmippldlhnajkaaGreatDoor
