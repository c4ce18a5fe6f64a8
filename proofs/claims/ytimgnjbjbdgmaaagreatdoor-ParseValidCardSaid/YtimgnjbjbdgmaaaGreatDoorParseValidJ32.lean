/- Texts of ParseValid, joined. -/
import Derived.Test.YtimgnjbjbdgmaaaGreatDoorParseValidJ31
set_option maxRecDepth 100000
set_option maxHeartbeats 20000000
set_option linter.all false
namespace Go.Proofs.YtimgnjbjbdgmaaaGreatDoor.Pr
open Go Go.Vm
variable {Φ:j6}
attribute [local irreducible] Go.Vm.Ev Go.Vm.Os Go.Vm.OsP Go.Vm.Lp Go.Vm.G8 Go.Vm.M7 Go.Vm.M9 Go.Vm.E
instance c6j {l1 words2}:OkF env (o8 l1 words2) 55 [.ptr 0 0,.sl clS l1] (hW clS words2) (a0X):=mkF Tryz.func55 rfl (by
 intro kr r h;unfold o8 at h;exact blk)
instance parse_of_I {n n1 ops2}:OkF env (a0C n n1 ops2) 57 [.agg (cN n1),.slice .sealed (List.length ops2) ((clI .i64) ops2)] [] (a5D):=mkF Tryz.func57 rfl (by
 obtain⟨a7K,a7X,a7Y,⟨a7Z,a8a,a8b,a8c⟩,a8d,a3Q,a8e⟩:=n1;intro kr r h;unfold a0C at h;let jn1:Jn 13 (List Nod):=jJ fun f H z=>([(5,.st 0 D9 z)],[tpl 10 z])
 let jl1:Jn 3 (List Nod×Int):=jJ fun f H z=>([(1,.slice .sealed (List.length ops2) ((clI .i64) ops2)),(5,.st 0 D9 z.1),(11,.sl D9 a3Q),(12,.i (List.length a3Q:Int)),(13,.i z.2)],[tpl 10 z.1])
 let jn2:Jn 12 (List Nod×Int):=jJ fun f H z=>([(1,.slice .sealed (List.length ops2) ((clI .i64) ops2)),(5,.st 0 D9 z.1),(11,.sl D9 a3Q),(12,.i (List.length a3Q:Int)),(13,.i z.2)],[tpl 10 z.1])
 let jl2:Jn 6 (List Nod×Int×Int):=jJ fun f H z=>([(1,.slice .sealed (List.length ops2) ((clI .i64) ops2)),(5,.st 0 D9 z.1),(7,.ptr 1 0),(11,.sl D9 a3Q),(12,.i (List.length a3Q:Int)),(13,.i z.2.1),(17,.slice .sealed (List.length ops2) ((clI .i64) ops2)),(18,.i (List.length ops2:Int)),(19,.i z.2.2)],[tpl 10 z.1,oH H 512])
 let jn3:Jn 11 (List Nod):=jJ fun f H z=>([(1,.slice .sealed (List.length ops2) ((clI .i64) ops2)),(5,.st 0 D9 z),(7,.ptr 1 0),(11,.sl D9 a3Q),(12,.i (List.length a3Q:Int)),(13,lk 13 f),(17,.slice .sealed (List.length ops2) ((clI .i64) ops2)),(18,.i (List.length ops2:Int)),(19,lk 19 f)],[tpl 10 z,oH H 1])
 exact blk)
instance c2E {n n1 words2}:OkF env (a0z n n1 words2) 59 [.ptr 0 0,.agg (cN n1)] (hW clS words2) (a0X):=mkF Tryz.func59 rfl (by
 obtain⟨a7K,a7X,a7Y,⟨a7Z,a8a,a8b,a8c⟩,a8d,a3Q,a8e⟩:=n1;intro kr r h;unfold a0z at h;let jl1:Jn 2 (Int×List Str):=jJ fun f H z=>([p0,(7,.sl D9 a3Q),(8,.i (List.length a3Q:Int)),(9,.i z.1)],[.row [.st 1 clS z.2],tpl 1 z.2])
 let jn1:Jn 8 (List Str):=jJ fun f H z=>([p0,(5,.ptr 2 0),(7,.sl D9 a3Q),(8,.i (List.length a3Q:Int)),(9,lk 9 f)],[.row [.st 1 clS z],tpl 1 z,oH H 384])
 exact blk)
instance b84 {n g1 words2}:OkF env (a0n n g1 words2) 98 [.agg (c0 g1.op g1.s g1.n g1.t.kind g1.t.name g1.t.n (.sl H7 g1.t.args) (.sl H7 g1.ts) (.sl D9 g1.l) g1.at_),.ptr 0 0] [(0,.row [.ptr 1 0]),(1,.row [.st 2 clS words2]),(2,.tip (tpe 1 (List.length words2)) (List.length words2))] (b60):=mkF Tryz.func98 rfl (by
 obtain⟨g1_0,g1_1,g1_2,⟨g1_3,g1_4,g1_5,g1_6⟩,g1_7,g1_8,g1_9⟩:=g1;intro kr r h;unfold a0n at h;exact blk)
instance c7J {n l1 words2}:OkF env (a6J n l1 words2) 97 [.ptr 0 0,.sl D9 l1,.func (.func 98) [] [.ptr 1 0]] [(0,.row [.st 2 clS words2]),(1,.row [.ptr 0 0]),(2,.tip (tpe 1 (List.length words2)) (List.length words2))] (c3f):=mkF Tryz.func97 rfl (by
 intro kr r h;unfold a6J at h;let jl1:Jn 1 (Int×List Str):=jJ fun f H z=>([p0,(2,.func (.func 98) [] [.ptr 1 0]),(8,.sl D9 l1),(9,.i (List.length l1:Int)),(10,.i z.1)],[.row [.st 2 clS z.2],.row [.ptr 0 0],tpl 1 z.2])
 let jn1:Jn 6 (List Str):=jJ fun f H z=>([p0,(2,.func (.func 98) [] [.ptr 1 0]),(7,.ptr 3 0),(8,.sl D9 l1),(9,.i (List.length l1:Int)),(10,lk 10 f)],[.row [.st 2 clS z],.row [.ptr 0 0],tpl 1 z,oH H 512])
 exact blk)
instance c0H {n n1 words2}:OkF env (a0u n n1 words2) 56 [.ptr 0 0,.agg (cN n1)] (hW clS words2) (a0X):=mkF Tryz.func56 rfl (by
 obtain⟨a7K,a7X,a7Y,⟨a7Z,a8a,a8b,a8c⟩,a8d,a3Q,a8e⟩:=n1;intro kr r h;unfold a0u at h;exact blk)
instance parse_kid_I {n1 i2}:OkF env (O8 n1 i2) 101 [.agg (cN n1),.i i2] [] (encF4):=mkF Tryz.func101 rfl (by
 obtain⟨a7K,a7X,a7Y,⟨a7Z,a8a,a8b,a8c⟩,a8d,a3Q,a8e⟩:=n1;intro kr r h;unfold O8 at h;exact blk)
instance c2G {n1 words2}:OkF env (a06 n1 words2) 184 [.ptr 0 0,.i n1] (hW clS words2) (a0X):=mkF Tryz.func184 rfl (by
 intro kr r h;unfold a06 at h;let jn1:Jn 5 (Str×List Str):=jJ fun f H z=>([p0,(4,.str z.1)],[.row [.st 1 clS z.2],tpl 1 z.2])
 exact blk)
instance c33 {n1 words2}:OkF env (a1x n1 words2) 185 [.ptr 0 0,.i n1] (hW clS words2) (a0X):=mkF Tryz.func185 rfl (by
 intro kr r h;unfold a1x at h;exact blk)
class w9.Ok (Φ:w9):Prop where
 J7:∀{t1 words2},OkF env (Φ.J7 t1 words2) 61 [.ptr 0 0,.agg [.i t1.kind,.str t1.name,.i t1.n,.sl H7 t1.args]] (hW clS words2) (a0X)
 a0G:∀{l1 words2},OkF env (Φ.a0G l1 words2) 104 [.ptr 0 0,.sl H7 l1] (hW clS words2) (a0X)
 Q7:∀{l1 words2},OkF env (Φ.Q7 l1 words2) 99 [.ptr 0 0,.sl H7 l1,.func (.func 61) [.ptr 0 0] []] (hW clS words2) (a0X)
attribute [instance] w9.Ok.J7 w9.Ok.a0G w9.Ok.Q7
theorem b3l (n:Nat){Φ:w9} [hΦ:w9.Ok Φ] {t1 words2}:OkF env (a2v n Φ t1 words2) 61 [.ptr 0 0,.agg [.i t1.kind,.str t1.name,.i t1.n,.sl H7 t1.args]] (hW clS words2) (a0X):=mkF Tryz.func61 rfl (by
 obtain⟨t1_0,t1_1,t1_2,t1_3⟩:=t1;intro kr r h;unfold a2v at h;exact blk)
theorem b2F (n:Nat){Φ:w9} [hΦ:w9.Ok Φ] {l1 words2}:OkF env (a1V n Φ l1 words2) 104 [.ptr 0 0,.sl H7 l1] (hW clS words2) (a0X):=mkF Tryz.func104 rfl (by
 intro kr r h;unfold a1V at h;exact blk)
theorem b4e (n:Nat){Φ:w9} [hΦ:w9.Ok Φ] {l1 words2}:OkF env (V8 n Φ l1 words2) 99 [.ptr 0 0,.sl H7 l1,.func (.func 61) [.ptr 0 0] []] (hW clS words2) (a0X):=mkF Tryz.func99 rfl (by
 intro kr r h;unfold V8 at h;let jl1:Jn 1 (Int×List Str):=jJ fun f H z=>([p0,(2,.func (.func 61) [.ptr 0 0] []),(8,.sl H7 l1),(9,.i (List.length l1:Int)),(10,.i z.1)],[.row [.st 1 clS z.2],tpl 1 z.2])
 let jn1:Jn 6 (List Str):=jJ fun f H z=>([p0,(2,.func (.func 61) [.ptr 0 0] []),(7,.ptr 2 0),(8,.sl H7 l1),(9,.i (List.length l1:Int)),(10,lk 10 f)],[.row [.st 1 clS z],tpl 1 z,oH H 512])
 exact blk)
theorem w9.ok:∀n,w9.Ok (w9.fs n)
 | 0=>⟨okN,okN,okN⟩
 | n+1=>have:=w9.ok n;⟨b3l n,b2F n,b4e n⟩
instance {n:Nat}:w9.Ok (w9.fs n):=w9.ok n
instance b9M {n p1 words2}:OkF env (a0V n p1 words2) 150 [.agg (c0 p1.op p1.s p1.n p1.t.kind p1.t.name p1.t.n (.sl H7 p1.t.args) (.sl H7 p1.ts) (.sl D9 p1.l) p1.at_),.ptr 0 0] [(0,.row [.ptr 1 0]),(1,.row [.st 2 clS words2]),(2,.tip (tpe 1 (List.length words2)) (List.length words2))] (b60):=mkF Tryz.func150 rfl (by
 obtain⟨p1_0,p1_1,p1_2,⟨p1_3,p1_4,p1_5,p1_6⟩,p1_7,p1_8,p1_9⟩:=p1;intro kr r h;unfold a0V at h;let jn1:Jn 6 (List Str):=jJ fun f H z=>([(1,.ptr 0 0),(2,.ptr 3 0)],[.row [.ptr 1 0],.row [.st 2 clS z],tpl 1 z,oH H 192])
 exact blk)
instance c3T {n l1 words2}:OkF env (a2s n l1 words2) 97 [.ptr 0 0,.sl D9 l1,.func (.func 150) [] [.ptr 1 0]] [(0,.row [.st 2 clS words2]),(1,.row [.ptr 0 0]),(2,.tip (tpe 1 (List.length words2)) (List.length words2))] (c3f):=mkF Tryz.func97 rfl (by
 intro kr r h;unfold a2s at h;let jl1:Jn 1 (Int×List Str):=jJ fun f H z=>([p0,(2,.func (.func 150) [] [.ptr 1 0]),(8,.sl D9 l1),(9,.i (List.length l1:Int)),(10,.i z.1)],[.row [.st 2 clS z.2],.row [.ptr 0 0],tpl 1 z.2])
 let jn1:Jn 6 (List Str):=jJ fun f H z=>([p0,(2,.func (.func 150) [] [.ptr 1 0]),(7,.ptr 3 0),(8,.sl D9 l1),(9,.i (List.length l1:Int)),(10,lk 10 f)],[.row [.st 2 clS z],.row [.ptr 0 0],tpl 1 z,oH H 512])
 exact blk)
instance c2H {n l1 words2}:OkF env (a07 n l1 words2) 102 [.ptr 0 0,.sl D9 l1] (hW clS words2) (a0X):=mkF Tryz.func102 rfl (by
 intro kr r h;unfold a07 at h;exact blk)
instance c2I {n t1 words2}:OkF env (a08 n t1 words2) 103 [.ptr 0 0,.agg [.i t1.kind,.str t1.name,.i t1.n,.sl H7 t1.args]] (hW clS words2) (a0X):=mkF Tryz.func103 rfl (by
 obtain⟨t1_0,t1_1,t1_2,t1_3⟩:=t1;intro kr r h;unfold a08 at h;exact blk)
instance parse_rest_I {n1 i2}:OkF env (a6e n1 i2) 169 [.agg (cN n1),.i i2] [] (a5D):=mkF Tryz.func169 rfl (by
 obtain⟨a7K,a7X,a7Y,⟨a7Z,a8a,a8b,a8c⟩,a8d,a3Q,a8e⟩:=n1;intro kr r h;unfold a6e at h;exact blk)
class C8.Ok (Φ:C8):Prop where
 V6:∀{n1 words2},OkF env (Φ.V6 n1 words2) 170 [.ptr 0 0,.agg (cN n1)] (hW clS words2) (a0X)
 a1q:∀{l1 words2},OkF env (Φ.a1q l1 words2) 97 [.ptr 0 0,.sl D9 l1,.func (.func 170) [.ptr 0 0] []] (hW clS words2) (a0X)
attribute [instance] C8.Ok.V6 C8.Ok.a1q
theorem b0U (n:Nat){Φ:C8} [hΦ:C8.Ok Φ] {n1 words2}:OkF env (X8 n Φ n1 words2) 170 [.ptr 0 0,.agg (cN n1)] (hW clS words2) (a0X):=mkF Tryz.func170 rfl (by
 obtain⟨a7K,a7X,a7Y,⟨a7Z,a8a,a8b,a8c⟩,a8d,a3Q,a8e⟩:=n1;intro kr r h;unfold X8 at h;exact blk)
theorem b1X (n:Nat){Φ:C8} [hΦ:C8.Ok Φ] {l1 words2}:OkF env (a1r n Φ l1 words2) 97 [.ptr 0 0,.sl D9 l1,.func (.func 170) [.ptr 0 0] []] (hW clS words2) (a0X):=mkF Tryz.func97 rfl (by
 intro kr r h;unfold a1r at h;let jl1:Jn 1 (Int×List Str):=jJ fun f H z=>([p0,(2,.func (.func 170) [.ptr 0 0] []),(8,.sl D9 l1),(9,.i (List.length l1:Int)),(10,.i z.1)],[.row [.st 1 clS z.2],tpl 1 z.2])
 let jn1:Jn 6 (List Str):=jJ fun f H z=>([p0,(2,.func (.func 170) [.ptr 0 0] []),(7,.ptr 2 0),(8,.sl D9 l1),(9,.i (List.length l1:Int)),(10,lk 10 f)],[.row [.st 1 clS z],tpl 1 z,oH H 512])
 exact blk)
theorem C8.ok:∀n,C8.Ok (C8.fs n)
 | 0=>⟨okN,okN⟩
 | n+1=>have:=C8.ok n;⟨b0U n,b1X n⟩
instance {n:Nat}:C8.Ok (C8.fs n):=C8.ok n
class j6.Ok (Φ:j6):Prop where
 K8:∀{n1 words2},OkF env (Φ.K8 n1 words2) 100 [.ptr 0 0,.agg (cN n1)] (hW clS words2) (a0X)
 V4:∀{n1 words2},OkF env (Φ.V4 n1 words2) 149 [.ptr 0 0,.agg (cN n1)] (hW clS words2) (a0X)
 I7:∀{n1 words2},OkF env (Φ.I7 n1 words2) 168 [.ptr 0 0,.agg (cN n1)] (hW clS words2) (a0X)
 a1W:∀{n1 words2},OkF env (Φ.a1W n1 words2) 187 [.ptr 0 0,.agg (cN n1)] (hW clS words2) (a0X)
 a1w:∀{n1 words2},OkF env (Φ.a1w n1 words2) 188 [.ptr 0 0,.agg (cN n1)] (hW clS words2) (a0X)
 a3K:∀{n1 words2},OkF env (Φ.a3K n1 words2) 189 [.ptr 0 0,.agg (cN n1)] (hW clS words2) (a0X)
 a0v:∀{n1 words2},OkF env (Φ.a0v n1 words2) 204 [.ptr 0 0,.agg (cN n1)] (hW clS words2) (a0X)
 a0h:∀{l1 words2},OkF env (Φ.a0h l1 words2) 205 [.ptr 0 0,.sl D9 l1] (hW clS words2) (a0X)
 a1p:∀{l1 words2},OkF env (Φ.a1p l1 words2) 97 [.ptr 0 0,.sl D9 l1,.func (.func 168) [.ptr 0 0] []] (hW clS words2) (a0X)
attribute [instance] j6.Ok.K8 j6.Ok.V4 j6.Ok.I7 j6.Ok.a1W j6.Ok.a1w j6.Ok.a3K j6.Ok.a0v j6.Ok.a0h j6.Ok.a1p
theorem b2d (n:Nat) [hΦ:j6.Ok Φ] {n1 words2}:OkF env (a0g n Φ n1 words2) 100 [.ptr 0 0,.agg (cN n1)] (hW clS words2) (a0X):=mkF Tryz.func100 rfl (by
 obtain⟨a7K,a7X,a7Y,⟨a7Z,a8a,a8b,a8c⟩,a8d,a3Q,a8e⟩:=n1;intro kr r h;unfold a0g at h;let jn1:Jn 8 (List Str):=jJ fun f H z=>([p0],[.row [.st 1 clS z],tpl 1 z])
 let jl1:Jn 3 (Int×List Str):=jJ fun f H z=>([p0,(10,.sl D9 a3Q),(11,.i (List.length a3Q:Int)),(12,.i z.1)],[.row [.st 1 clS z.2],tpl 1 z.2])
 exact blk)
theorem a97 (n:Nat) [hΦ:j6.Ok Φ] {n1 words2}:OkF env (Y1 n Φ n1 words2) 149 [.ptr 0 0,.agg (cN n1)] (hW clS words2) (a0X):=mkF Tryz.func149 rfl (by
 obtain⟨a7K,a7X,a7Y,⟨a7Z,a8a,a8b,a8c⟩,a8d,a3Q,a8e⟩:=n1;intro kr r h;unfold Y1 at h;let jn1:Jn 7 (List Str):=jJ fun f H z=>([p0,(3,.ptr 2 0)],[.row [.st 1 clS z],tpl 1 z,oH H 256])
 let jn2:Jn 11 (List Str):=jJ fun f H z=>([p0,(3,.ptr 2 0)],[.row [.st 1 clS z],tpl 1 z,oH H 2])
 let jn3:Jn 14 (List Str):=jJ fun f H z=>([p0],[.row [.st 1 clS z],tpl 1 z])
 let jn4:Jn 47 (List Str):=jJ fun f H z=>([p0],[.row [.st 1 clS z],tpl 1 z])
 let jl1:Jn 40 (Int×List Str):=jJ fun f H z=>([p0,(140,ow .sealed (lk 140 f)),(141,lk 141 f),(142,.i z.1)],[.row [.st 1 clS z.2],tpl 1 z.2])
 let jn5:Jn 52 (List Str):=jJ fun f H z=>([p0],[.row [.st 1 clS z],tpl 1 z])
 exact blk)
theorem b2H (n:Nat) [hΦ:j6.Ok Φ] {n1 words2}:OkF env (a0b n Φ n1 words2) 168 [.ptr 0 0,.agg (cN n1)] (hW clS words2) (a0X):=mkF Tryz.func168 rfl (by
 obtain⟨a7K,a7X,a7Y,⟨a7Z,a8a,a8b,a8c⟩,a8d,a3Q,a8e⟩:=n1;intro kr r h;unfold a0b at h;exact blk)
theorem b1s (n:Nat) [hΦ:j6.Ok Φ] {n1 words2}:OkF env (a2a n Φ n1 words2) 187 [.ptr 0 0,.agg (cN n1)] (hW clS words2) (a0X):=mkF Tryz.func187 rfl (by
 obtain⟨a7K,a7X,a7Y,⟨a7Z,a8a,a8b,a8c⟩,a8d,a3Q,a8e⟩:=n1;intro kr r h;unfold a2a at h;let jl1:Jn 2 (Int×List Str):=jJ fun f H z=>([p0,(3,.ptr 2 0),(7,.sl D9 a3Q),(8,.i (List.length a3Q:Int)),(9,.i z.1)],[.row [.st 1 clS z.2],tpl 1 z.2,oH H 256])
 let jn1:Jn 12 (List Str):=jJ fun f H z=>([p0,(3,.ptr 2 0),(7,.sl D9 a3Q),(8,.i (List.length a3Q:Int)),(9,lk 9 f)],[.row [.st 1 clS z],tpl 1 z,oH H 2])
 exact blk)
theorem b0T (n:Nat) [hΦ:j6.Ok Φ] {n1 words2}:OkF env (a0U n Φ n1 words2) 188 [.ptr 0 0,.agg (cN n1)] (hW clS words2) (a0X):=mkF Tryz.func188 rfl (by
 obtain⟨a7K,a7X,a7Y,⟨a7Z,a8a,a8b,a8c⟩,a8d,a3Q,a8e⟩:=n1;intro kr r h;unfold a0U at h;let jn1:Jn 15 (List Str):=jJ fun f H z=>([p0],[.row [.st 1 clS z],tpl 1 z])
 let jl1:Jn 6 (Int×List Str):=jJ fun f H z=>([p0,(25,ow .sealed (lk 25 f)),(26,lk 26 f),(27,.i z.1)],[.row [.st 1 clS z.2],tpl 1 z.2])
 let jn2:Jn 14 (Int×List Str):=jJ fun f H z=>([p0,(25,ow .sealed (lk 25 f)),(26,lk 26 f),(27,.i z.1)],[.row [.st 1 clS z.2],tpl 1 z.2])
 let jl2:Jn 9 (Int×Int×List Str):=jJ fun f H z=>([p0,(25,ow .sealed (lk 25 f)),(26,lk 26 f),(27,.i z.1),(32,ow .sealed (agC (lk 30 f) 8)),(33,lk 33 f),(34,.i z.2.1)],[.row [.st 1 clS z.2.2],tpl 1 z.2.2])
 exact blk)
theorem b3m (n:Nat) [hΦ:j6.Ok Φ] {n1 words2}:OkF env (a2w n Φ n1 words2) 189 [.ptr 0 0,.agg (cN n1)] (hW clS words2) (a0X):=mkF Tryz.func189 rfl (by
 obtain⟨a7K,a7X,a7Y,⟨a7Z,a8a,a8b,a8c⟩,a8d,a3Q,a8e⟩:=n1;intro kr r h;unfold a2w at h;exact blk)
theorem b0o (n:Nat) [hΦ:j6.Ok Φ] {n1 words2}:OkF env (a1l n Φ n1 words2) 204 [.ptr 0 0,.agg (cN n1)] (hW clS words2) (a0X):=mkF Tryz.func204 rfl (by
 obtain⟨a7K,a7X,a7Y,⟨a7Z,a8a,a8b,a8c⟩,a8d,a3Q,a8e⟩:=n1;intro kr r h;unfold a1l at h;let jn1:Jn 30008 Bool:=jJ fun f H z=>([p0,(3,.ptr 2 0),(9,.bool z)],[.row [.st 1 clS words2],tpl 1 words2,oH H 256])
 exact blk)
theorem b2G (n:Nat) [hΦ:j6.Ok Φ] {l1 words2}:OkF env (a3j n Φ l1 words2) 205 [.ptr 0 0,.sl D9 l1] (hW clS words2) (a0X):=mkF Tryz.func205 rfl (by
 intro kr r h;unfold a3j at h;exact blk)
theorem b1W (n:Nat) [hΦ:j6.Ok Φ] {l1 words2}:OkF env (a2A n Φ l1 words2) 97 [.ptr 0 0,.sl D9 l1,.func (.func 168) [.ptr 0 0] []] (hW clS words2) (a0X):=mkF Tryz.func97 rfl (by
 intro kr r h;unfold a2A at h;let jl1:Jn 1 (Int×List Str):=jJ fun f H z=>([p0,(2,.func (.func 168) [.ptr 0 0] []),(8,.sl D9 l1),(9,.i (List.length l1:Int)),(10,.i z.1)],[.row [.st 1 clS z.2],tpl 1 z.2])
 let jn1:Jn 6 (List Str):=jJ fun f H z=>([p0,(2,.func (.func 168) [.ptr 0 0] []),(7,.ptr 2 0),(8,.sl D9 l1),(9,.i (List.length l1:Int)),(10,lk 10 f)],[.row [.st 1 clS z],tpl 1 z,oH H 512])
 exact blk)
theorem j6.ok:∀n,j6.Ok (j6.fs n)
 | 0=>⟨okN,okN,okN,okN,okN,okN,okN,okN,okN⟩
 | n+1=>have:=j6.ok n;⟨b2d n,a97 n,b2H n,b1s n,b0T n,b3m n,b0o n,b2G n,b1W n⟩
instance {n:Nat}:j6.Ok (j6.fs n):=j6.ok n
instance c2F {n n1 words2}:OkF env (a1X n n1 words2) 58 [.ptr 0 0,.agg (cN n1)] (hW clS words2) (a0X):=mkF Tryz.func58 rfl (by
 obtain⟨a7K,a7X,a7Y,⟨a7Z,a8a,a8b,a8c⟩,a8d,a3Q,a8e⟩:=n1;intro kr r h;unfold a1X at h;let jn1:Jn 7 (List Str):=jJ fun f H z=>([p0,(3,.ptr 2 0)],[.row [.st 1 clS z],tpl 1 z,oH H 256])
 let jn2:Jn 13 (List Str):=jJ fun f H z=>([p0,(3,.ptr 2 0)],[.row [.st 1 clS z],tpl 1 z,oH H 256])
 let jn3:Jn 18 (List Str):=jJ fun f H z=>([p0],[.row [.st 1 clS z],tpl 1 z])
 exact blk)
instance c0I {n r1 words2}:OkF env (a1a n r1 words2) 105 [.agg (c0 r1.op r1.s r1.n r1.t.kind r1.t.name r1.t.n (.sl H7 r1.t.args) (.sl H7 r1.ts) (.sl D9 r1.l) r1.at_),.ptr 0 0] [(0,.row [.ptr 1 0]),(1,.row [.st 2 clS words2]),(2,.tip (tpe 1 (List.length words2)) (List.length words2))] (b60):=mkF Tryz.func105 rfl (by
 obtain⟨r1_0,r1_1,r1_2,⟨r1_3,r1_4,r1_5,r1_6⟩,r1_7,r1_8,r1_9⟩:=r1;intro kr r h;unfold a1a at h;exact blk)
instance c3U {n l1 words2}:OkF env (a5h n l1 words2) 97 [.ptr 0 0,.sl D9 l1,.func (.func 105) [] [.ptr 1 0]] [(0,.row [.st 2 clS words2]),(1,.row [.ptr 0 0]),(2,.tip (tpe 1 (List.length words2)) (List.length words2))] (c3f):=mkF Tryz.func97 rfl (by
 intro kr r h;unfold a5h at h;let jl1:Jn 1 (Int×List Str):=jJ fun f H z=>([p0,(2,.func (.func 105) [] [.ptr 1 0]),(8,.sl D9 l1),(9,.i (List.length l1:Int)),(10,.i z.1)],[.row [.st 2 clS z.2],.row [.ptr 0 0],tpl 1 z.2])
 let jn1:Jn 6 (List Str):=jJ fun f H z=>([p0,(2,.func (.func 105) [] [.ptr 1 0]),(7,.ptr 3 0),(8,.sl D9 l1),(9,.i (List.length l1:Int)),(10,lk 10 f)],[.row [.st 2 clS z],.row [.ptr 0 0],tpl 1 z,oH H 512])
 exact blk)
instance c35 {n n1 words2}:OkF env (a1y n n1 words2) 62 [.ptr 0 0,.agg (cN n1)] (hW clS words2) (a0X):=mkF Tryz.func62 rfl (by
 obtain⟨a7K,a7X,a7Y,⟨a7Z,a8a,a8b,a8c⟩,a8d,a3Q,a8e⟩:=n1;intro kr r h;unfold a1y at h;exact blk)
instance c0G {n n1 words2}:OkF env (P6 n n1 words2) 60 [.ptr 0 0,.agg (cN n1)] (hW clS words2) (a0X):=mkF Tryz.func60 rfl (by
 obtain⟨a7K,a7X,a7Y,⟨a7Z,a8a,a8b,a8c⟩,a8d,a3Q,a8e⟩:=n1;intro kr r h;unfold P6 at h;let jn1:Jn 12 (List Str):=jJ fun f H z=>([p0,(3,.ptr 2 0)],[.row [.st 1 clS z],tpl 1 z,oH H 256])
 let jl1:Jn 5 (List Nod×Int×Int×List Str):=jJ fun f H z=>([p0,(3,.ptr 2 0),(23,.sl D9 z.1),(24,.i z.2.1),(25,.i z.2.2.1)],[.row [.st 1 clS z.2.2.2],tpl 1 z.2.2.2,oH H 256])
 let jl2:Jn 15 (Int×List Str):=jJ fun f H z=>([p0,(52,ow .sealed (lk 52 f)),(53,lk 53 f),(54,.i z.1)],[.row [.st 1 clS z.2],tpl 1 z.2])
 exact blk)
instance a7d {n n1 words2}:OkF env (O0 n n1 words2) 26 [.ptr 0 0,.agg (cN n1)] (hW clS words2) (a0X):=mkF Tryz.func26 rfl (by
 obtain⟨a7K,a7X,a7Y,⟨a7Z,a8a,a8b,a8c⟩,a8d,a3Q,a8e⟩:=n1;intro kr r h;unfold O0 at h;let jn1:Jn 30006 Bool:=jJ fun f H z=>([p0,(3,.ptr 2 0),(11,.i a7K),(12,.bool z)],[.row [.st 1 clS words2],tpl 1 words2,oH H 256])
 let jn2:Jn 8 (List Str):=jJ fun f H z=>([p0,(3,.ptr 2 0)],[.row [.st 1 clS z],tpl 1 z,oH H 2])
 let jn3:Jn 10 (List Str):=jJ fun f H z=>([p0,(3,.ptr 2 0)],[.row [.st 1 clS z],tpl 1 z,oH H 2])
 let jn4:Jn 18 (List Str):=jJ fun f H z=>([p0],[.row [.st 1 clS z],tpl 1 z])
 let jl1:Jn 13 (List Nod×Int×Int×List Str):=jJ fun f H z=>([p0,(48,.sl D9 z.1),(49,.i z.2.1),(50,.i z.2.2.1)],[.row [.st 1 clS z.2.2.2],tpl 1 z.2.2.2])
 let jn5:Jn 30 (List Str):=jJ fun f H z=>([p0],[.row [.st 1 clS z],tpl 1 z])
 let jl2:Jn 21 (Int×List Str):=jJ fun f H z=>([p0,(69,.sl D9 a3Q),(70,.i (List.length a3Q:Int)),(71,.i z.1)],[.row [.st 1 clS z.2],tpl 1 z.2])
 let jn6:Jn 29 (List Str):=jJ fun f H z=>([p0,(69,.sl D9 a3Q),(70,.i (List.length a3Q:Int)),(71,lk 71 f)],[.row [.st 1 clS z],tpl 1 z])
 let jn7:Jn 46 (List Str):=jJ fun f H z=>([p0],[.row [.st 1 clS z],tpl 1 z])
 let jl3:Jn 37 (Int×List Str):=jJ fun f H z=>([p0,(118,ow .sealed (lk 118 f)),(119,lk 119 f),(120,.i z.1)],[.row [.st 1 clS z.2],tpl 1 z.2])
 let jn8:Jn 45 (List Str):=jJ fun f H z=>([p0,(118,ow .sealed (lk 118 f)),(119,lk 119 f),(120,lk 120 f)],[.row [.st 1 clS z],tpl 1 z])
 exact blk)
instance a9w {words1}:OkF env (a5U words1) 28 [.ptr 0 0] (hW clS words1) (encF5 words1):=mkF Tryz.func28 rfl (by
 intro kr r h;unfold a5U at h;exact blk)
class J4.Ok (Φ:J4):Prop where
 Q0:∀{l1 t2},OkF env (Φ.Q0 l1 t2) 77 [.st 0 clS l1,.agg [.i t2.kind,.str t2.name,.i t2.n,.sl H7 t2.args]] (hT l1) (a6H)
attribute [instance] J4.Ok.Q0
theorem b7p (n:Nat){Φ:J4} [hΦ:J4.Ok Φ] {l1 t2}:OkF env (a6f n Φ l1 t2) 77 [.st 0 clS l1,.agg [.i t2.kind,.str t2.name,.i t2.n,.sl H7 t2.args]] (hT l1) (a6H):=mkF Tryz.func77 rfl (by
 obtain⟨t2_0,t2_1,t2_2,t2_3⟩:=t2;intro kr r h;unfold a6f at h;let jn1:Jn 36 (List Str):=jJ fun f H z=>([(0,.st 0 clS z),(3,.ptr 1 0)],[tpl 1 z,oH H 256])
 let jn2:Jn 19 (List Str):=jJ fun f H z=>([(0,.st 0 clS z),(3,.ptr 1 0)],[tpl 1 z,oH H 256])
 let jl1:Jn 15 (List Str×Int):=jJ fun f H z=>([(0,.st 0 clS z.1),(3,.ptr 1 0),(5,.i z.2)],[tpl 1 z.1,oH H 256])
 let jn3:Jn 28 (List Str):=jJ fun f H z=>([(0,.st 0 clS z),(3,.ptr 1 0)],[tpl 1 z,oH H 256])
 let jl2:Jn 22 (List Str×Int):=jJ fun f H z=>([(0,.st 0 clS z.1),(3,.ptr 1 0),(6,.i z.2)],[tpl 1 z.1,oH H 256])
 let jn4:Jn 27 (List Str):=jJ fun f H z=>([(0,.st 0 clS z),(3,.ptr 1 0),(6,lk 6 f)],[tpl 1 z,oH H 1])
 let jn5:Jn 31 (List Str):=jJ fun f H z=>([(0,.st 0 clS z)],[tpl 1 z])
 let jn6:Jn 45 (List Str):=jJ fun f H z=>([(0,.st 0 clS z)],[tpl 1 z])
 let jn7:Jn 44 (List Str):=jJ fun f H z=>([(0,.st 0 clS z)],[tpl 1 z])
 let jl3:Jn 38 (List Str×Int):=jJ fun f H z=>([(0,.st 0 clS z.1),(3,.ptr 1 0),(7,.i z.2)],[tpl 1 z.1,oH H 1])
 let jn8:Jn 43 (List Str):=jJ fun f H z=>([(0,.st 0 clS z),(3,.ptr 1 0),(7,lk 7 f)],[tpl 1 z,oH H 1])
 exact blk)
theorem J4.ok:∀n,J4.Ok (J4.fs n)
 | 0=>⟨okN⟩
 | n+1=>have:=J4.ok n;⟨b7p n⟩
instance {n:Nat}:J4.Ok (J4.fs n):=J4.ok n
instance ref02_of_I {n n1 ops2}:OkF env (a2W n n1 ops2) 129 [.agg (cN n1),.slice .sealed (List.length ops2) ((clI .i64) ops2)] [] (a5D):=mkF Tryz.func129 rfl (by
 obtain⟨a7K,a7X,a7Y,⟨a7Z,a8a,a8b,a8c⟩,a8d,a3Q,a8e⟩:=n1;intro kr r h;unfold a2W at h;let jn1:Jn 11 (List Nod):=jJ fun f H z=>([(5,.st 0 D9 z)],[tpl 10 z])
 let jl1:Jn 3 (List Nod×Int):=jJ fun f H z=>([(1,.slice .sealed (List.length ops2) ((clI .i64) ops2)),(2,.ptr 0 0),(5,.st 1 D9 z.1),(6,.i z.2)],[oH H 192,tpl 10 z.1])
 let jn2:Jn 5 (List Nod×Int):=jJ fun f H z=>([(1,.slice .sealed (List.length ops2) ((clI .i64) ops2)),(2,.ptr 0 0),(5,.st 1 D9 z.1),(6,.i z.2)],[oH H 0,tpl 10 z.1])
 let jl2:Jn 6 (List Nod×Int×Int):=jJ fun f H z=>([(1,.slice .sealed (List.length ops2) ((clI .i64) ops2)),(2,.ptr 0 0),(5,.st 1 D9 z.1),(6,.i z.2.1),(7,.i z.2.2)],[oH H 0,tpl 10 z.1])
 exact blk)
instance c8L {n l1 n2}:OkF env (a4k n l1 n2) 78 [.st 0 clS l1,.agg (cN n2)] (hT l1) (a6H):=mkF Tryz.func78 rfl (by
 obtain⟨b7k,b8J,b8K,⟨b8L,b8M,b8N,b8O⟩,b8P,b8Q,b8R⟩:=n2;intro kr r h;unfold a4k at h;let jn1:Jn 15 (List Str):=jJ fun f H z=>([(0,.st 0 clS z)],[tpl 1 z])
 let jl1:Jn 3 (List Str×Int):=jJ fun f H z=>([(0,.st 0 clS z.1),(5,ow .sealed (lk 9 f)),(6,.i z.2)],[tpl 1 z.1])
 let jn2:Jn 5 (List Str):=jJ fun f H z=>([(0,.st 0 clS z),(5,ow .sealed (lk 5 f)),(6,lk 6 f)],[tpl 1 z])
 let jn3:Jn 9 (List Str):=jJ fun f H z=>([(0,.st 0 clS z),(5,ow .sealed (lk 5 f)),(6,lk 6 f)],[tpl 1 z])
 exact blk)
instance ref02_listed_I {n l1 n2}:OkF env (a4V n l1 n2) 130 [.st 0 clS l1,.agg (cN n2)] (hT l1) (a6H):=mkF Tryz.func130 rfl (by
 obtain⟨b7k,b8J,b8K,⟨b8L,b8M,b8N,b8O⟩,b8P,b8Q,b8R⟩:=n2;intro kr r h;unfold a4V at h;let jn1:Jn 16 (List Str):=jJ fun f H z=>([(0,.st 0 clS z)],[tpl 1 z])
 let jl1:Jn 4 (List Str×Int):=jJ fun f H z=>([(0,.st 0 clS z.1),(5,ow .sealed (lk 12 f)),(6,.i z.2)],[tpl 1 z.1])
 let jn2:Jn 9 (List Str):=jJ fun f H z=>([(0,.st 0 clS z),(5,ow .sealed (lk 5 f)),(6,lk 6 f)],[tpl 1 z])
 let jn3:Jn 14 (List Str):=jJ fun f H z=>([(0,.st 0 clS z),(5,ow .sealed (lk 5 f)),(6,lk 6 f)],[tpl 1 z])
 exact blk)
instance ref02_result_I {n l1 t2}:OkF env (a5Z n l1 t2) 131 [.st 0 clS l1,.agg [.i t2.kind,.str t2.name,.i t2.n,.sl H7 t2.args]] (hT l1) (a6H):=mkF Tryz.func131 rfl (by
 obtain⟨t2_0,t2_1,t2_2,t2_3⟩:=t2;intro kr r h;unfold a5Z at h;exact blk)
instance ref02_truth_I {n1}:OkF env (a6q n1) 173 [.i n1] [] (encF7):=mkF Tryz.func173 rfl (by
 intro kr r h;unfold a6q at h;exact blk)
instance ref02_loose_I {n1}:OkF env (a7U n1) 197 [.agg (cN n1)] [] (encF8):=mkF Tryz.func197 rfl (by
 obtain⟨a7K,a7X,a7Y,⟨a7Z,a8a,a8b,a8c⟩,a8d,a3Q,a8e⟩:=n1;intro kr r h;unfold a7U at h;exact blk)
class J9.Ok (Φ:J9):Prop where
 a2M:∀{l1 n2},OkF env (Φ.a2M l1 n2) 177 [.st 0 clS l1,.agg (cN n2)] (hT l1) (a6H)
attribute [instance] J9.Ok.a2M
theorem b5N (n:Nat){Φ:J9} [hΦ:J9.Ok Φ] {l1 n2}:OkF env (a4y n Φ l1 n2) 177 [.st 0 clS l1,.agg (cN n2)] (hT l1) (a6H):=mkF Tryz.func177 rfl (by
 obtain⟨b7k,b8J,b8K,⟨b8L,b8M,b8N,b8O⟩,b8P,b8Q,b8R⟩:=n2;intro kr r h;unfold a4y at h;let jn1:Jn 27 (List Str):=jJ fun f H z=>([(0,.st 0 clS z)],[tpl 1 z])
 let jn2:Jn 25 (List Str):=jJ fun f H z=>([(0,.st 0 clS z),(3,.ptr 1 0)],[tpl 1 z,oH H 256])
 let jl1:Jn 18 (List Str×Int):=jJ fun f H z=>([(0,.st 0 clS z.1),(3,.ptr 1 0),(6,.i z.2)],[tpl 1 z.1,oH H 256])
 let jn3:Jn 24 (List Str):=jJ fun f H z=>([(0,.st 0 clS z),(3,.ptr 1 0),(6,lk 6 f)],[tpl 1 z,oH H 1])
 exact blk)
theorem J9.ok:∀n,J9.Ok (J9.fs n)
 | 0=>⟨okN⟩
 | n+1=>have:=J9.ok n;⟨b5N n⟩
instance {n:Nat}:J9.Ok (J9.fs n):=J9.ok n
end Go.Proofs.YtimgnjbjbdgmaaaGreatDoor.Pr
