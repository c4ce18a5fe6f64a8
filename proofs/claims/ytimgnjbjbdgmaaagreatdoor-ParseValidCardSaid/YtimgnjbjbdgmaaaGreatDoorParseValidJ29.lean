/- Texts of ParseValid, joined. -/
import Derived.Test.YtimgnjbjbdgmaaaGreatDoorParseValidJ28
set_option maxRecDepth 100000
set_option maxHeartbeats 20000000
set_option linter.all false
namespace Go.Proofs.YtimgnjbjbdgmaaaGreatDoor
open Go Go.Vm
variable {Φ:D5}
attribute [local irreducible] Go.Vm.Ev Go.Vm.Os Go.Vm.OsP Go.Vm.Lp Go.Vm.G8 Go.Vm.M7 Go.Vm.M9 Go.Vm.E
class K5.Ok (Φ:K5):Prop where
 Y3:∀{t1 P5},OkF env (Φ.Y3 t1 P5) 18 [.agg [.i t1.kind,.str t1.name,.i t1.n,.sl H7 t1.args],.i P5] [] (a0X)
attribute [instance] K5.Ok.Y3
theorem b4f (n:Nat){Φ:K5} [hΦ:K5.Ok Φ] {t1 P5}:OkF env (a5V n Φ t1 P5) 18 [.agg [.i t1.kind,.str t1.name,.i t1.n,.sl H7 t1.args],.i P5] [] (a0X):=mkF Tryz.func18 rfl (by
 obtain⟨t1_0,t1_1,t1_2,t1_3⟩:=t1;intro kr r h;unfold a5V at h;let jn1:Jn 7 Int:=jJ fun f H z=>([(1,.i P5),(5,.i z)],[])
 let jl1:Jn 3 (Int×Int):=jJ fun f H z=>([(1,.i P5),(2,.ptr 0 0),(5,.i z.1),(6,.i z.2)],[oH H 192])
 let jn2:Jn 90016 Bool:=jJ fun f H z=>([(1,.i P5),(2,.ptr 0 0),(5,lk 5 f),(6,lk 6 f),(16,.bool z)],[oH H 0])
 exact blk)
theorem K5.ok:∀n,K5.Ok (K5.fs n)
 | 0=>⟨okN⟩
 | n+1=>have:=K5.ok n;⟨b4f n⟩
instance {n:Nat}:K5.Ok (K5.fs n):=K5.ok n
class P7.Ok (Φ:P7):Prop where
 a4Z:∀{x1 P5},OkF env (Φ.a4Z x1 P5) 8 [.agg (c0 x1.op x1.s x1.n x1.t.kind x1.t.name x1.t.n (.sl H7 x1.t.args) (.sl H7 x1.ts) (.sl D9 x1.l) x1.at_),.i P5] [] (a0X)
attribute [instance] P7.Ok.a4Z
theorem b7n (n:Nat){Φ:P7} [hΦ:P7.Ok Φ] {x1 P5}:OkF env (a7A n Φ x1 P5) 8 [.agg (c0 x1.op x1.s x1.n x1.t.kind x1.t.name x1.t.n (.sl H7 x1.t.args) (.sl H7 x1.ts) (.sl D9 x1.l) x1.at_),.i P5] [] (a0X):=mkF Tryz.func8 rfl (by
 obtain⟨x1_0,x1_1,x1_2,⟨x1_3,x1_4,x1_5,x1_6⟩,x1_7,x1_8,x1_9⟩:=x1;intro kr r h;unfold a7A at h;let jn1:Jn 7 Int:=jJ fun f H z=>([(1,.i P5),(2,.ptr 0 0),(5,.i z)],[oH H 192])
 let jl1:Jn 3 (Int×Int):=jJ fun f H z=>([(1,.i P5),(2,.ptr 0 0),(5,.i z.1),(6,.i z.2)],[oH H 192])
 let jn2:Jn 90022 Bool:=jJ fun f H z=>([(1,.i P5),(2,.ptr 0 0),(5,lk 5 f),(6,lk 6 f),(22,.bool z)],[oH H 0])
 let jn3:Jn 9 Int:=jJ fun f H z=>([(1,.i P5),(2,.ptr 0 0),(5,.i z)],[oH H 0])
 let jn4:Jn 13 Int:=jJ fun f H z=>([(1,.i P5),(5,.i z)],[])
 let jl2:Jn 9 (Int×Int):=jJ fun f H z=>([(1,.i P5),(2,.ptr 0 0),(5,.i z.1),(7,.i z.2)],[oH H 0])
 let jn5:Jn 90053 Bool:=jJ fun f H z=>([(1,.i P5),(2,.ptr 0 0),(5,lk 5 f),(7,lk 7 f),(53,.bool z)],[oH H 0])
 exact blk)
theorem P7.ok:∀n,P7.Ok (P7.fs n)
 | 0=>⟨okN⟩
 | n+1=>have:=P7.ok n;⟨b7n n⟩
instance {n:Nat}:P7.Ok (P7.fs n):=P7.ok n
class U2.Ok (Φ:U2):Prop where
 a3L:∀{t1 P5},OkF env (Φ.a3L t1 P5) 19 [.agg [.i t1.kind,.str t1.name,.i t1.n,.sl H7 t1.args],.i P5] [] (a0X)
attribute [instance] U2.Ok.a3L
theorem b9h (n:Nat){Φ:U2} [hΦ:U2.Ok Φ] {t1 P5}:OkF env (a8y n Φ t1 P5) 19 [.agg [.i t1.kind,.str t1.name,.i t1.n,.sl H7 t1.args],.i P5] [] (a0X):=mkF Tryz.func19 rfl (by
 obtain⟨t1_0,t1_1,t1_2,t1_3⟩:=t1;intro kr r h;unfold a8y at h;let jn1:Jn 5 Int:=jJ fun f H z=>([(1,.i P5),(2,.ptr 0 0),(5,.i z)],[oH H 192])
 let jn2:Jn 30004 Bool:=jJ fun f H z=>([(1,.i P5),(2,.ptr 0 0),(5,.i (List.length t1_1:Int)),(18,.bool z)],[oH H 192])
 let jn3:Jn 9 Int:=jJ fun f H z=>([(5,.i z)],[])
 let jl1:Jn 5 (Int×Int):=jJ fun f H z=>([(1,.i P5),(2,.ptr 0 0),(5,.i z.1),(6,.i z.2)],[oH H 0])
 let jn4:Jn 90030 Bool:=jJ fun f H z=>([(1,.i P5),(2,.ptr 0 0),(5,lk 5 f),(6,lk 6 f),(30,.bool z)],[oH H 0])
 exact blk)
theorem U2.ok:∀n,U2.Ok (U2.fs n)
 | 0=>⟨okN⟩
 | n+1=>have:=U2.ok n;⟨b9h n⟩
instance {n:Nat}:U2.Ok (U2.fs n):=U2.ok n
class R6.Ok (Φ:R6):Prop where
 a5n:∀{n1 P5},OkF env (Φ.a5n n1 P5) 9 [.agg (cN n1),.i P5] [] (a0X)
attribute [instance] R6.Ok.a5n
theorem b9f (n:Nat){Φ:R6} [hΦ:R6.Ok Φ] {n1 P5}:OkF env (a8u n Φ n1 P5) 9 [.agg (cN n1),.i P5] [] (a0X):=mkF Tryz.func9 rfl (by
 obtain⟨a7K,a7X,a7Y,⟨a7Z,a8a,a8b,a8c⟩,a8d,a3Q,a8e⟩:=n1;intro kr r h;unfold a8u at h;let jn1:Jn 7 Int:=jJ fun f H z=>([(1,.i P5),(2,.ptr 0 0),(5,.i z)],[oH H 192])
 let jl1:Jn 3 (Int×Int):=jJ fun f H z=>([(1,.i P5),(2,.ptr 0 0),(5,.i z.1),(6,.i z.2)],[oH H 192])
 let jn2:Jn 90025 Bool:=jJ fun f H z=>([(1,.i P5),(2,.ptr 0 0),(5,lk 5 f),(6,lk 6 f),(25,.bool z)],[oH H 0])
 let jn3:Jn 11 Int:=jJ fun f H z=>([(5,.i z)],[])
 let jl2:Jn 7 (Int×Int):=jJ fun f H z=>([(1,.i P5),(2,.ptr 0 0),(5,.i z.1),(7,.i z.2)],[oH H 0])
 let jn4:Jn 90048 Bool:=jJ fun f H z=>([(1,.i P5),(2,.ptr 0 0),(5,lk 5 f),(7,lk 7 f),(48,.bool z)],[oH H 0])
 exact blk)
theorem R6.ok:∀n,R6.Ok (R6.fs n)
 | 0=>⟨okN⟩
 | n+1=>have:=R6.ok n;⟨b9f n⟩
instance {n:Nat}:R6.Ok (R6.fs n):=R6.ok n
instance law02_big_I {n n1}:OkF env (b1g n n1) 4 [.agg (cN n1)] [] (a5D):=mkF Tryz.func4 rfl (by
 obtain⟨a7K,a7X,a7Y,⟨a7Z,a8a,a8b,a8c⟩,a8d,a3Q,a8e⟩:=n1;intro kr r h;unfold b1g at h;exact blk)
class U9.Ok (Φ:U9):Prop where
 a5g:∀{n1},OkF env (Φ.a5g n1) 12 [.agg (cN n1)] [] (b60)
attribute [instance] U9.Ok.a5g
theorem b82 (n:Nat){Φ:U9} [hΦ:U9.Ok Φ] {n1}:OkF env (a8o n Φ n1) 12 [.agg (cN n1)] [] (b60):=mkF Tryz.func12 rfl (by
 obtain⟨a7K,a7X,a7Y,⟨a7Z,a8a,a8b,a8c⟩,a8d,a3Q,a8e⟩:=n1;intro kr r h;unfold a8o at h;let jn1:Jn 10 (Int×Int):=jJ fun f H z=>([(2,.i z.1),(3,.i z.2)],[])
 let jl1:Jn 3 (Int×Int×Int):=jJ fun f H z=>([(2,.i z.1),(3,.i z.2.1),(9,.sl D9 a3Q),(10,.i (List.length a3Q:Int)),(11,.i z.2.2)],[])
 exact blk)
theorem U9.ok:∀n,U9.Ok (U9.fs n)
 | 0=>⟨okN⟩
 | n+1=>have:=U9.ok n;⟨b82 n⟩
instance {n:Nat}:U9.Ok (U9.fs n):=U9.ok n
instance parse_begin_I {a3n}:OkF env (a7R a3n) 20 [.str a3n] [] (c3f a3n):=mkF Tryz.func20 rfl (by
 intro kr r h;unfold a7R at h;let ls:Nat->List Nat:=fun n=>cond (Nat.beq n 2) [384] ([]);exact blk)
instance c4R {d9 at2 o6}:OkF env (a2Q d9 at2 o6) 21 [.ptr 0 0] (hP u7 d9 at2 o6) (encF4 d9 at2 o6):=mkF Tryz.func21 rfl (by
 intro kr r h;unfold a2Q at h;exact blk)
instance c7K {n1 kind2 c4E b39 at5 size6}:OkF env (F3 n1 kind2 c4E b39 at5 size6) 43 [.ptr 0 0,.i n1,.i kind2,.str c4E] (hP u7 b39 at5 size6) (encF5 b39 at5 size6):=mkF Tryz.func43 rfl (by
 intro kr r h;unfold F3 at h;let ls:Nat->List Nat:=fun n=>cond (Nat.beq n 3) [0,0] ([]);exact blk)
instance c4T {op1 G5 at3 O9}:OkF env (E9 op1 G5 at3 O9) 47 [.ptr 0 0,.i op1] (hP u7 G5 at3 O9) (a6H op1 G5 at3 O9):=mkF Tryz.func47 rfl (by
 intro kr r h;unfold E9 at h;exact blk)
instance c4Q {d9 at2 o6}:OkF env (a2P d9 at2 o6) 95 [.ptr 0 0] (hP u7 d9 at2 o6) (encF7 d9 at2 o6):=mkF Tryz.func95 rfl (by
 intro kr r h;unfold a2P at h;exact blk)
instance c3Y {a6P G5 at3 O9}:OkF env (U5 a6P G5 at3 O9) 92 [.ptr 0 0,.i a6P] (hP u7 G5 at3 O9) (encF8 G5 at3 O9):=mkF Tryz.func92 rfl (by
 intro kr r h;unfold U5 at h;let ls:Nat->List Nat:=fun n=>cond (Nat.beq n 3) [0,0] ([]);exact blk)
instance c1T {d9 at2 o6}:OkF env (J8 d9 at2 o6) 49 [.ptr 0 0] (hP u7 d9 at2 o6) (encF9 d9 at2 o6):=mkF Tryz.func49 rfl (by
 intro kr r h;unfold J8 at h;exact blk)
instance c6i {b6a G5 at3 O9}:OkF env (J5 b6a G5 at3 O9) 48 [.ptr 0 0,.str b6a] (hP u7 G5 at3 O9) (encF10 G5 O9):=mkF Tryz.func48 rfl (by
 intro kr r h;unfold J5 at h;exact blk)
instance c1W {b6a G5 at3 O9}:OkF env (N8 b6a G5 at3 O9) 53 [.ptr 0 0,.str b6a] (hP u7 G5 at3 O9) (encF11 G5 O9):=mkF Tryz.func53 rfl (by
 intro kr r h;unfold N8 at h;exact blk)
instance c4U {b5U G5 at3 O9}:OkF env (D7 b5U G5 at3 O9) 93 [.ptr 0 0,.str b5U] (hP u7 G5 at3 O9) (encF10 G5 O9):=mkF Tryz.func93 rfl (by
 intro kr r h;unfold D7 at h;exact blk)
instance c4V {b5U G5 at3 O9}:OkF env (C9 b5U G5 at3 O9) 86 [.ptr 0 0,.str b5U] (hP u7 G5 at3 O9) (encF11 G5 O9):=mkF Tryz.func86 rfl (by
 intro kr r h;unfold C9 at h;exact blk)
instance c2y {n d9 at2 o6}:OkF env (a3g n d9 at2 o6) 87 [.ptr 0 0] (hP u7 d9 at2 o6) (encF12 d9 o6):=mkF Tryz.func87 rfl (by
 intro kr r h;unfold a3g at h;let jl1:Jn 4 (List Nod×Int):=jJ fun f H z=>([p0,(3,.st 1 D9 z.1)],[r2 u7 d9 z.2 o6,tpl 10 z.1])
 exact blk)
instance parse_named_I {b1l X5}:OkF env (a9j b1l X5) 166 [.str b1l,.sl H7 X5] [] (encF13):=mkF Tryz.func166 rfl (by
 intro kr r h;unfold a9j at h;let jn1:Jn 16 Int:=jJ fun f H z=>([(0,.str b1l),(1,.sl H7 X5),(4,.ptr 0 0),(5,.i z)],[tz 1,t0])
 let jn2:Jn 30004 Bool:=jJ fun f H z=>([(0,.str b1l),(1,.sl H7 X5),(4,.ptr 0 0),(5,.i 6),(6,.bool z)],[tz 1,t0])
 let jn3:Jn 30006 Bool:=jJ fun f H z=>([(0,.str b1l),(1,.sl H7 X5),(4,.ptr 0 0),(5,.i 6),(16,.bool z)],[oH H 0,t0])
 exact blk)
class D5.Ok (Φ:D5):Prop where
 J6:∀{d9 at2 o6},OkF env (Φ.J6 d9 at2 o6) 89 [.ptr 0 0] (hP u7 d9 at2 o6) (b76 d9 o6)
 a1d:∀{inExpr1 G5 at3 O9},OkF env (Φ.a1d inExpr1 G5 at3 O9) 147 [.ptr 0 0,.bool inExpr1] (hP u7 G5 at3 O9) (b76 G5 O9)
attribute [instance] D5.Ok.J6 D5.Ok.a1d
theorem b3k (n:Nat) [hΦ:D5.Ok Φ] {d9 at2 o6}:OkF env (a5k n Φ d9 at2 o6) 89 [.ptr 0 0] (hP u7 d9 at2 o6) (b76 d9 o6):=mkF Tryz.func89 rfl (by
 intro kr r h;unfold a5k at h;let jn1:Jn 12 (List Typ×Int):=jJ fun f H z=>([p0,(2,.ptr 1 0),(3,.st 2 H7 z.1)],[r2 u7 d9 z.2 o6,tz 3,tpl 4 z.1,t0])
 let jn2:Jn 11 (List Typ×Int):=jJ fun f H z=>([p0,(2,.ptr 1 0),(3,.st 2 H7 z.1)],[r2 u7 d9 z.2 o6,tz 3,tpl 4 z.1,t0])
 let jl1:Jn 8 (List Typ×Int):=jJ fun f H z=>([p0,(2,.ptr 1 0),(3,.st 2 H7 z.1)],[r2 u7 d9 z.2 o6,tz 3,tpl 4 z.1,t0])
 exact blk)
theorem b2E (n:Nat) [hΦ:D5.Ok Φ] {inExpr1 G5 at3 O9}:OkF env (a3h n Φ inExpr1 G5 at3 O9) 147 [.ptr 0 0,.bool inExpr1] (hP u7 G5 at3 O9) (b76 G5 O9):=mkF Tryz.func147 rfl (by
 intro kr r h;unfold a3h at h;let jn1:Jn 9 (List Typ×Int):=jJ fun f H z=>([p0,(1,.bool inExpr1),(4,.ptr 1 0),(5,lk 9 f),(6,.st 2 H7 z.1)],[r2 u7 G5 z.2 O9,tz 3,tpl 4 z.1,t0])
 let jn2:Jn 8 (List Typ×Int):=jJ fun f H z=>([p0,(1,.bool inExpr1),(4,.ptr 1 0),(5,lk 9 f),(6,.st 2 H7 z.1)],[r2 u7 G5 z.2 O9,tz 3,tpl 4 z.1,t0])
 let jl1:Jn 5 (List Typ×Int):=jJ fun f H z=>([p0,(1,.bool inExpr1),(4,.ptr 1 0),(5,lk 9 f),(6,.st 2 H7 z.1)],[r2 u7 G5 z.2 O9,tz 3,tpl 4 z.1,t0])
 let jn3:Jn 13 (Int×Typ):=jJ fun f H z=>([(4,.ptr 1 0),(7,.ptr 2 0)],[r2 u7 G5 z.1 O9,oH H 1,rT z.2,t0])
 let jl2:Jn 9 (Int×Typ):=jJ fun f H z=>([p0,(1,.bool inExpr1),(4,.ptr 1 0),(7,.ptr 2 0)],[r2 u7 G5 z.1 O9,oH H 1,rT z.2,t0])
 let jn4:Jn 90038 Bool:=jJ fun f H z=>([p0,(1,.bool inExpr1),(4,.ptr 1 0),(7,.ptr 2 0),(38,.bool z)],[oH H 0,oH H 1,oH H 2,t0])
 let ls:Nat->List Nat:=fun n=>cond (Nat.beq n 11) [2] ([]);exact blk)
theorem D5.ok:∀n,D5.Ok (D5.fs n)
 | 0=>⟨okN,okN⟩
 | n+1=>have:=D5.ok n;⟨b3k n,b2E n⟩
instance {n:Nat}:D5.Ok (D5.fs n):=D5.ok n
instance c4S {d9 at2 o6}:OkF env (M5 d9 at2 o6) 94 [.ptr 0 0] (hP u7 d9 at2 o6) (encF9 d9 at2 o6):=mkF Tryz.func94 rfl (by
 intro kr r h;unfold M5 at h;exact blk)
instance c2B {n d9 at2 o6}:OkF env (a05 n d9 at2 o6) 145 [.ptr 0 0] (hP u7 d9 at2 o6) (c5v d9 o6):=mkF Tryz.func145 rfl (by
 intro kr r h;unfold a05 at h;let jn1:Jn 16 (List Nod×Int):=jJ fun f H z=>([p0,(3,.st 1 D9 z.1)],[r2 u7 d9 z.2 o6,tpl 10 z.1])
 let jl1:Jn 5 (List Nod×Int):=jJ fun f H z=>([p0,(3,.st 1 D9 z.1)],[r2 u7 d9 z.2 o6,tpl 10 z.1])
 let jn2:Jn 11 (Int×Int):=jJ fun f H z=>([p0,(3,ow (.tag 1) (lk 3 f)),(4,.ptr 2 0)],[r2 u7 d9 z.1 o6,oH H 1,.row [.i 10,.str [],.i z.2,.i 0,.str [],.i 0,.slice .sealed 0 [],zs 3,zs 4,(agC (lk 10 f) 9)],t0,t0])
 exact blk)
instance c2C {n d9 at2 o6}:OkF env (a1T n d9 at2 o6) 146 [.ptr 0 0] (hP u7 d9 at2 o6) (b76 d9 o6):=mkF Tryz.func146 rfl (by
 intro kr r h;unfold a1T at h;exact blk)
instance c0E {n d9 at2 o6}:OkF env (a0t n d9 at2 o6) 50 [.ptr 0 0] (hP u7 d9 at2 o6) (c5v d9 o6):=mkF Tryz.func50 rfl (by
 intro kr r h;unfold a0t at h;let jn1:Jn 10 (List Nod×Int):=jJ fun f H z=>([p0,(3,.st 1 D9 z.1)],[r2 u7 d9 z.2 o6,tpl 10 z.1])
 let jl1:Jn 4 (List Nod×Int):=jJ fun f H z=>([p0,(3,.st 1 D9 z.1)],[r2 u7 d9 z.2 o6,tpl 10 z.1])
 exact blk)
instance c3Z {n d9 at2 o6}:OkF env (a3J n d9 at2 o6) 90 [.ptr 0 0] (hP u7 d9 at2 o6) (c5v d9 o6):=mkF Tryz.func90 rfl (by
 intro kr r h;unfold a3J at h;let jl1:Jn 4 (List Nod×Int):=jJ fun f H z=>([p0,(3,.st 1 D9 z.1)],[r2 u7 d9 z.2 o6,tpl 10 z.1])
 let jn1:Jn 13 (Int×Str×Int×List Typ):=jJ fun f H z=>([p0,(3,ow (.tag 1) (lk 3 f)),(4,.ptr 2 0)],[r2 u7 d9 z.1 o6,oH H 1,.row [.i 12,.str z.2.1,.i z.2.2.1,(agC (lk 11 f) 0),(agC (lk 11 f) 1),(agC (lk 11 f) 2),ow .sealed (agC (lk 11 f) 3),.st 3 H7 z.2.2.2,zs 4,(agC (lk 9 f) 9)],tpl 4 z.2.2.2,t0])
 exact blk)
instance b9L {n d9 at2 o6}:OkF env (a0S n d9 at2 o6) 88 [.ptr 0 0] (hP u7 d9 at2 o6) (encF16 d9 o6):=mkF Tryz.func88 rfl (by
 intro kr r h;unfold a0S at h;let jn1:Jn 13 (Int×List Nod):=jJ fun f H z=>([p0,(2,.ptr 1 0),(3,.ptr 2 0)],[r2 u7 d9 z.1 o6,nz 3 4 5,.row [.i 7,lk 10 f,.i 0,.i 0,.str [],.i 0,.slice .sealed 0 [],zs 6,.st 7 D9 z.2,(agC (lk 6 f) 9)],t0,t0,t0,t0,tpl 10 z.2])
 let ls:Nat->List Nat:=fun n=>cond (Nat.beq n 13) [2] (cond (Nat.beq n 5) [256] ([]));exact blk)
instance c0F {n d9 at2 o6}:OkF env (a3y n d9 at2 o6) 44 [.ptr 0 0] (hP u7 d9 at2 o6) (c1m d9 o6):=mkF Tryz.func44 rfl (by
 intro kr r h;unfold a3y at h;let jn1:Jn 13 (Int×List Nod):=jJ fun f H z=>([p0,(2,.ptr 1 0),(3,.ptr 2 0)],[r2 u7 d9 z.1 o6,nz 3 4 5,.row [.i 5,lk 11 f,.i 0,.i 0,.str [],.i 0,.slice .sealed 0 [],zs 6,.st 7 D9 z.2,(agC (lk 7 f) 9)],t0,t0,t0,t0,tpl 10 z.2])
 let jl1:Jn 5 (Int×List Nod):=jJ fun f H z=>([p0,(2,.ptr 1 0),(3,.ptr 2 0)],[r2 u7 d9 z.1 o6,nz 3 4 5,.row [.i 5,lk 11 f,.i 0,.i 0,.str [],.i 0,.slice .sealed 0 [],zs 6,.st 7 D9 z.2,(agC (lk 7 f) 9)],t0,t0,t0,t0,tpl 10 z.2])
 let jn2:Jn 17 (Int×List Nod):=jJ fun f H z=>([p0,(2,.ptr 1 0),(3,.ptr 2 0)],[r2 u7 d9 z.1 o6,oH H 1,.row [.i 5,(cH H 2 1),.i 0,.i 0,.str [],.i 0,.slice .sealed 0 [],zs 6,.st 7 D9 z.2,(cH H 2 9)],t0,t0,t0,t0,tpl 10 z.2])
 let jl2:Jn 12 (Int×List Nod):=jJ fun f H z=>([p0,(2,.ptr 1 0),(3,.ptr 2 0)],[r2 u7 d9 z.1 o6,oH H 1,.row [.i 5,(cH H 2 1),.i 0,.i 0,.str [],.i 0,.slice .sealed 0 [],zs 6,.st 7 D9 z.2,(cH H 2 9)],t0,t0,t0,t0,tpl 10 z.2])
 exact blk)
instance c1V {d9 at2 o6}:OkF env (a0N d9 at2 o6) 210 [.ptr 0 0] (hP u7 d9 at2 o6) (encF18 d9 at2 o6):=mkF Tryz.func210 rfl (by
 intro kr r h;unfold a0N at h;exact blk)
instance c3X {n d9 at2 o6}:OkF env (a5j n d9 at2 o6) 237 [.ptr 0 0] (hP u7 d9 at2 o6) (c1m d9 o6):=mkF Tryz.func237 rfl (by
 intro kr r h;unfold a5j at h;let jn1:Jn 8 (Int×Int×Str×List Nod):=jJ fun f H z=>([(2,.ptr 1 0),(3,.ptr 2 0)],[r2 u7 d9 z.1 o6,nz 3 4 5,.row [.i z.2.1,.str z.2.2.1,.i 0,.i 0,.str [],.i 0,.slice .sealed 0 [],zs 6,.st 7 D9 z.2.2.2,(agC (lk 6 f) 9)],t0,t0,t0,t0,tpl 10 z.2.2.2])
 let jl1:Jn 3 (Int×Int×Str×List Nod):=jJ fun f H z=>([p0,(2,.ptr 1 0),(3,.ptr 2 0)],[r2 u7 d9 z.1 o6,nz 3 4 5,.row [.i z.2.1,.str z.2.2.1,.i 0,.i 0,.str [],.i 0,.slice .sealed 0 [],zs 6,.st 7 D9 z.2.2.2,(agC (lk 6 f) 9)],t0,t0,t0,t0,tpl 10 z.2.2.2])
 exact blk)
instance parse_levels_I:OkF env (a9I) 200 [] [] (encF19):=mkF Tryz.func200 rfl (by
 intro kr r h;unfold a9I at h;exact blk)
instance b7P {n s1 v2}:OkF env (a1Q n s1 v2) 96 [.sl clS s1,.str v2] [] (a0X):=mkF Tryz.func96 rfl (by
 intro kr r h;unfold a1Q at h;let jn1:Jn 8 Unit:=jJ fun f H z=>([],[])
 let jl1:Jn 2 Int:=jJ fun f H z=>([(0,.sl clS s1),(1,.str v2),(7,.i (List.length s1:Int)),(8,.i z)],[])
 exact blk)
instance b6M {n s1 v2}:OkF env (X4 n s1 v2) 54 [.sl clS s1,.str v2] [] (a5D):=mkF Tryz.func54 rfl (by
 intro kr r h;unfold X4 at h;exact blk)
class G7.Ok (Φ:G7):Prop where
 V5:∀{d9 at2 o6},OkF env (Φ.V5 d9 at2 o6) 198 [.ptr 0 0] (hP u7 d9 at2 o6) (c1m d9 o6)
attribute [instance] G7.Ok.V5
theorem b0R (n:Nat){Φ:G7} [hΦ:G7.Ok Φ] {d9 at2 o6}:OkF env (a2R n Φ d9 at2 o6) 198 [.ptr 0 0] (hP u7 d9 at2 o6) (c1m d9 o6):=mkF Tryz.func198 rfl (by
 intro kr r h;unfold a2R at h;let jn1:Jn 25 (Int×Int×Str×Int×List Nod):=jJ fun f H z=>([(2,.ptr 1 0),(3,.ptr 2 0)],[r2 u7 d9 z.1 o6,nz 3 4 5,.row [.i z.2.1,.str z.2.2.1,.i z.2.2.2.1,.i 0,.str [],.i 0,.slice .sealed 0 [],zs 6,.st 7 D9 z.2.2.2.2,(agC (lk 5 f) 9)],t0,t0,t0,t0,tpl 10 z.2.2.2.2])
 let jn2:Jn 9 (Int×List Nod):=jJ fun f H z=>([p0,(2,.ptr 1 0),(3,.ptr 2 0)],[r2 u7 d9 z.1 o6,nz 3 4 5,.row [.i 45,lk 9 f,.i 0,.i 0,.str [],.i 0,.slice .sealed 0 [],zs 6,.st 7 D9 z.2,(agC (lk 5 f) 9)],t0,t0,t0,t0,tpl 10 z.2])
 let jl1:Jn 6 (Int×List Nod):=jJ fun f H z=>([p0,(2,.ptr 1 0),(3,.ptr 2 0)],[r2 u7 d9 z.1 o6,nz 3 4 5,.row [.i 45,lk 9 f,.i 0,.i 0,.str [],.i 0,.slice .sealed 0 [],zs 6,.st 7 D9 z.2,(agC (lk 5 f) 9)],t0,t0,t0,t0,tpl 10 z.2])
 let ls:Nat->List Nat:=fun n=>cond (Nat.beq n 7) [2] (cond (Nat.beq n 5) [256] ([]));exact blk)
theorem G7.ok:∀n,G7.Ok (G7.fs n)
 | 0=>⟨okN⟩
 | n+1=>have:=G7.ok n;⟨b0R n⟩
instance {n:Nat}:G7.Ok (G7.fs n):=G7.ok n
instance parse_place_I {n e1}:OkF env (a9l n e1) 183 [.agg (c0 e1.op e1.s e1.n e1.t.kind e1.t.name e1.t.n (.sl H7 e1.t.args) (.sl H7 e1.ts) (.sl D9 e1.l) e1.at_)] [] (a5D):=mkF Tryz.func183 rfl (by
 obtain⟨e1_0,e1_1,e1_2,⟨e1_3,e1_4,e1_5,e1_6⟩,e1_7,e1_8,e1_9⟩:=e1;intro kr r h;unfold a9l at h;let jn1:Jn 4 Nod:=jJ fun f H z=>([(1,.ptr 0 0)],[rN z])
 let jl1:Jn 1 Nod:=jJ fun f H z=>([(1,.ptr 0 0)],[rN z])
 exact blk)
end Go.Proofs.YtimgnjbjbdgmaaaGreatDoor
