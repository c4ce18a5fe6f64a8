/- Texts of ParseValid, joined. -/
import Derived.Test.YtimgnjbjbdgmaaaGreatDoorParseValidJ30
set_option maxRecDepth 100000
set_option maxHeartbeats 20000000
set_option linter.all false
namespace Go.Proofs.YtimgnjbjbdgmaaaGreatDoor
open Go Go.Vm
variable {Φ:j4}
attribute [local irreducible] Go.Vm.Ev Go.Vm.Os Go.Vm.OsP Go.Vm.Lp Go.Vm.G8 Go.Vm.M7 Go.Vm.M9 Go.Vm.E
class A8.Ok (Φ:A8):Prop where
 K4:∀{l1 A9 at3 o9},OkF env (Φ.K4 l1 A9 at3 o9) 122 [.ptr 0 0] (hR u7 l1 A9 at3 o9) (c1n l1 A9 o9)
 Y8:∀{l1 A9 at3 o9},OkF env (Φ.Y8 l1 A9 at3 o9) 124 [.ptr 0 0] (hR u7 l1 A9 at3 o9) (encF33 l1 A9 o9)
 a1f:∀{l1 A9 at3 o9},OkF env (Φ.a1f l1 A9 at3 o9) 153 [.ptr 0 0] (hR u7 l1 A9 at3 o9) (c1n l1 A9 o9)
attribute [instance] A8.Ok.K4 A8.Ok.Y8 A8.Ok.a1f
theorem b3u (n:Nat){Φ:A8} [hΦ:A8.Ok Φ] {l1 A9 at3 o9}:OkF env (a5r n Φ l1 A9 at3 o9) 122 [.ptr 0 0] (hR u7 l1 A9 at3 o9) (c1n l1 A9 o9):=mkF Tryz.func122 rfl (by
 intro kr r h;unfold a5r at h;let jn1:Jn 12 (Int×List Typ):=jJ fun f H z=>([p0,(2,.ptr 1 0),(6,.ptr 2 0)],[r3 u7 l1 A9 z.1 o9,tz 3,.row [.i 10,.str [],.i 0,.st 4 H7 z.2],t0,tpl 4 z.2])
 let jn2:Jn 30010 (Bool×Int):=jJ fun f H z=>([p0,(2,.ptr 1 0),(6,.ptr 2 0),(7,ow (.tag 3) (lk 35 f)),(43,.bool z.1)],[r3 u7 l1 A9 z.2 o9,tz 4,.row [.i 10,.str [],.i 0,zs 5],oH H 2240,t0,t0])
 let jn3:Jn 23 (Bool×Int×Typ):=jJ fun f H z=>([(2,.ptr 1 0),(12,.ptr 2 0),(13,.bool z.1)],[r3 u7 l1 A9 z.2.1 o9,tz 3,rT z.2.2,t0])
 let jl1:Jn 18 (Bool×Int×Typ):=jJ fun f H z=>([p0,(2,.ptr 1 0),(12,.ptr 2 0),(13,.bool z.1)],[r3 u7 l1 A9 z.2.1 o9,tz 3,rT z.2.2,t0])
 let jn4:Jn 90074 (Bool×Int):=jJ fun f H z=>([p0,(2,.ptr 1 0),(12,.ptr 2 0),(13,lk 13 f),(74,.bool z.1)],[r3 u7 l1 A9 z.2 o9,oH H 1,oH H 2,t0])
 exact blk)
theorem b2m (n:Nat){Φ:A8} [hΦ:A8.Ok Φ] {l1 A9 at3 o9}:OkF env (a0k n Φ l1 A9 at3 o9) 124 [.ptr 0 0] (hR u7 l1 A9 at3 o9) (encF33 l1 A9 o9):=mkF Tryz.func124 rfl (by
 intro kr r h;unfold a0k at h;let jn1:Jn 10 (List Typ×Int):=jJ fun f H z=>([(4,.st 1 H7 z.1)],[r3 u7 l1 A9 z.2 o9,tpl 4 z.1])
 let jl1:Jn 3 (List Typ×Bool×Int):=jJ fun f H z=>([p0,(4,.st 1 H7 z.1),(5,.bool z.2.1)],[r3 u7 l1 A9 z.2.2 o9,tpl 4 z.1])
 exact blk)
theorem b2K (n:Nat){Φ:A8} [hΦ:A8.Ok Φ] {l1 A9 at3 o9}:OkF env (a1Z n Φ l1 A9 at3 o9) 153 [.ptr 0 0] (hR u7 l1 A9 at3 o9) (c1n l1 A9 o9):=mkF Tryz.func153 rfl (by
 intro kr r h;unfold a1Z at h;let jn1:Jn 11 (List Typ×Int):=jJ fun f H z=>([(2,.ptr 1 0),(4,lk 13 f),(6,.st 2 H7 z.1)],[r3 u7 l1 A9 z.2 o9,tz 3,tpl 4 z.1,t0])
 let jn2:Jn 30009 (Bool×Int):=jJ fun f H z=>([(2,.ptr 1 0),(4,lk 13 f),(7,ow (.tag 2) (lk 23 f)),(31,.bool z.1)],[r3 u7 l1 A9 z.2 o9,tz 3,oH H 1472,t0])
 let jn3:Jn 24 Int:=jJ fun f H z=>([(2,.ptr 1 0),(4,lk 4 f),(6,ow (.tag 2) (lk 6 f)),(9,.i z)],[oH H 0,oH H 1,oH H 2,t0])
 let jn4:Jn 30013 Bool:=jJ fun f H z=>([(2,.ptr 1 0),(4,lk 4 f),(6,ow (.tag 2) (lk 6 f)),(9,.i 6),(34,.bool z)],[oH H 0,oH H 1,oH H 2,t0])
 let jn5:Jn 30015 Bool:=jJ fun f H z=>([(2,.ptr 1 0),(4,lk 4 f),(6,ow (.tag 2) (lk 6 f)),(9,.i 6),(42,.bool z)],[oH H 0,oH H 1,oH H 2,t0])
 let jn6:Jn 30017 Bool:=jJ fun f H z=>([(2,.ptr 1 0),(4,lk 4 f),(6,ow (.tag 2) (lk 6 f)),(9,.i 6),(50,.bool z)],[oH H 0,oH H 1,oH H 2,t0])
 let jn7:Jn 30019 Bool:=jJ fun f H z=>([(2,.ptr 1 0),(4,lk 4 f),(6,ow (.tag 2) (lk 6 f)),(9,.i 6),(58,.bool z)],[oH H 0,oH H 1,oH H 2,t0])
 let jn8:Jn 30021 Bool:=jJ fun f H z=>([(2,.ptr 1 0),(4,lk 4 f),(6,ow (.tag 2) (lk 6 f)),(9,.i 6),(66,.bool z)],[oH H 0,oH H 1,oH H 2,t0])
 let jn9:Jn 30023 Bool:=jJ fun f H z=>([(2,.ptr 1 0),(4,lk 4 f),(6,ow (.tag 2) (lk 6 f)),(9,.i 6),(74,.bool z)],[oH H 0,oH H 1,oH H 2,t0])
 let jn10:Jn 26 Str:=jJ fun f H z=>([(2,.ptr 1 0),(4,.str z),(6,ow (.tag 2) (lk 6 f)),(9,lk 9 f)],[oH H 0,oH H 1,oH H 2,t0])
 exact blk)
theorem A8.ok:∀n,A8.Ok (A8.fs n)
 | 0=>⟨okN,okN,okN⟩
 | n+1=>have:=A8.ok n;⟨b3u n,b2m n,b2K n⟩
instance {n:Nat}:A8.Ok (A8.fs n):=A8.ok n
instance ref02_levels_I:OkF env (a8z) 214 [] [] (encF34):=mkF Tryz.func214 rfl (by
 intro kr r h;unfold a8z at h;exact blk)
instance ref02_number_I {n s1}:OkF env (a2V n s1) 216 [.str s1] [] (a0X):=mkF Tryz.func216 rfl (by
 intro kr r h;unfold a2V at h;let jn1:Jn 7 Int:=jJ fun f H z=>([(3,.i z)],[])
 let jl1:Jn 3 (Int×Int):=jJ fun f H z=>([(0,.str s1),(3,.i z.1),(4,.i z.2)],[])
 exact blk)
instance c4X {n l1 A9 at3 o9}:OkF env (a5Y n l1 A9 at3 o9) 262 [.ptr 0 0] (hR u7 l1 A9 at3 o9) (c1o l1 A9 o9):=mkF Tryz.func262 rfl (by
 intro kr r h;unfold a5Y at h;let jn1:Jn 9 (Bool×Int×Int×Str×List Nod):=jJ fun f H z=>([(2,.ptr 1 0),(6,.bool z.1),(7,.ptr 2 0)],[r3 u7 l1 A9 z.2.1 o9,nz 3 4 5,.row [.i z.2.2.1,.str z.2.2.2.1,.i 0,.i 0,.str [],.i 0,zs 6,zs 7,.st 8 D9 z.2.2.2.2,lk 11 f],t0,t0,t0,t0,t0,tpl 10 z.2.2.2.2])
 let jl1:Jn 4 (Bool×Int×Int×Str×List Nod):=jJ fun f H z=>([p0,(2,.ptr 1 0),(4,lk 11 f),(6,.bool z.1),(7,.ptr 2 0)],[r3 u7 l1 A9 z.2.1 o9,nz 3 4 5,.row [.i z.2.2.1,.str z.2.2.2.1,.i 0,.i 0,.str [],.i 0,zs 6,zs 7,.st 8 D9 z.2.2.2.2,lk 11 f],t0,t0,t0,t0,t0,tpl 10 z.2.2.2.2])
 let jn2:Jn 90024 (Bool×Int):=jJ fun f H z=>([p0,(2,.ptr 1 0),(4,lk 4 f),(6,lk 6 f),(7,.ptr 2 0),(24,.bool z.1)],[r3 u7 l1 A9 z.2 o9,oH H 1,oH H 2,t0,t0,t0,t0,t0,oH H 8])
 exact blk)
instance c2N {n l1 l2 E5 at4 u6}:OkF env (a3l n l1 l2 E5 at4 u6) 127 [.ptr 0 0,.st 1 D9 l1] [(0,.row [.sl u7 l2,.i E5,.i at4,.i u6]),(1,.tip (tpe 10 (List.length l1)) (List.length l1))] (c5x l2 E5 u6):=mkF Tryz.func127 rfl (by
 intro kr r h;unfold a3l at h;let jn1:Jn 21 (List Nod×Int):=jJ fun f H z=>([p0,(1,.st 1 D9 z.1)],[r3 u7 l2 E5 z.2 u6,tpl 10 z.1])
 let jl1:Jn 4 (List Nod×Bool×Int):=jJ fun f H z=>([p0,(1,.st 1 D9 z.1),(6,.bool z.2.1)],[r3 u7 l2 E5 z.2.2 u6,tpl 10 z.1])
 let jn2:Jn 11 (Int×Int):=jJ fun f H z=>([p0,(1,ow (.tag 1) (lk 1 f)),(7,.ptr 2 0)],[r3 u7 l2 E5 z.1 u6,oH H 1,.row [.i 10,.str [],.i z.2,.i 0,.str [],.i 0,zs 3,zs 4,zs 5,lk 18 f],t0,t0,t0])
 let jn3:Jn 30013 (Bool×Int):=jJ fun f H z=>([p0,(1,ow (.tag 1) (lk 1 f)),(7,.ptr 2 0),(8,lk 29 f),(37,.bool z.1)],[r3 u7 l2 E5 z.2 u6,oH H 1,oH H 2,t0,t0,t0])
 exact blk)
class F9.Ok (Φ:F9):Prop where
 V7:∀{l1 A9 at3 o9},OkF env (Φ.V7 l1 A9 at3 o9) 207 [.ptr 0 0] (hR u7 l1 A9 at3 o9) (c1o l1 A9 o9)
attribute [instance] F9.Ok.V7
theorem b0Y (n:Nat){Φ:F9} [hΦ:F9.Ok Φ] {l1 A9 at3 o9}:OkF env (a3c n Φ l1 A9 at3 o9) 207 [.ptr 0 0] (hR u7 l1 A9 at3 o9) (c1o l1 A9 o9):=mkF Tryz.func207 rfl (by
 intro kr r h;unfold a3c at h;let jn1:Jn 44 (List Nod×Int):=jJ fun f H z=>([p0,(2,.ptr 1 0),(4,.ptr 2 0),(15,.st 3 D9 z.1)],[r3 u7 l1 A9 z.2 o9,nz 4 5 6,.row [.i 45,lk 88 f,.i 0,.i 0,.str [],.i 0,zs 7,zs 8,zs 9,lk 21 f],tpl 10 z.1,t0,t0,t0,t0,t0,t0])
 let jl1:Jn 37 (List Nod×Bool×Int):=jJ fun f H z=>([p0,(2,.ptr 1 0),(4,.ptr 2 0),(15,.st 3 D9 z.1),(16,.bool z.2.1)],[r3 u7 l1 A9 z.2.2 o9,nz 4 5 6,.row [.i 45,lk 88 f,.i 0,.i 0,.str [],.i 0,zs 7,zs 8,zs 9,lk 21 f],tpl 10 z.1,t0,t0,t0,t0,t0,t0])
 exact blk)
theorem F9.ok:∀n,F9.Ok (F9.fs n)
 | 0=>⟨okN⟩
 | n+1=>have:=F9.ok n;⟨b0Y n⟩
instance {n:Nat}:F9.Ok (F9.fs n):=F9.ok n
instance ref02_Place_I {n n1}:OkF env (a5W n n1) 208 [.agg (cN n1)] [] (a5D):=mkF Tryz.func208 rfl (by
 obtain⟨a7K,a7X,a7Y,⟨a7Z,a8a,a8b,a8c⟩,a8d,a3Q,a8e⟩:=n1;intro kr r h;unfold a5W at h;let jn1:Jn 4 Nod:=jJ fun f H z=>([(1,.ptr 0 0)],[rN z])
 let jl1:Jn 1 Nod:=jJ fun f H z=>([(1,.ptr 0 0)],[rN z])
 let jn2:Jn 90011 Bool:=jJ fun f H z=>([(1,.ptr 0 0),(11,.bool z)],[oH H 0])
 exact blk)
class j4.Ok (Φ:j4):Prop where
 K9:∀{l1 A9 at3 o9},OkF env (Φ.K9 l1 A9 at3 o9) 123 [.ptr 0 0] (hR u7 l1 A9 at3 o9) (a2q l1 A9)
 a0a:∀{l1 A9 at3 o9},OkF env (Φ.a0a l1 A9 at3 o9) 154 [.ptr 0 0] (hR u7 l1 A9 at3 o9) (encF37 l1 A9)
 a0W:∀{l1 A9 at3 o9},OkF env (Φ.a0W l1 A9 at3 o9) 171 [.ptr 0 0] (hR u7 l1 A9 at3 o9) (a2q l1 A9)
 a2x:∀{l1 A9 at3 o9},OkF env (Φ.a2x l1 A9 at3 o9) 190 [.ptr 0 0] (hR u7 l1 A9 at3 o9) (a2q l1 A9)
 M6:∀{l1 A9 at3 o9},OkF env (Φ.M6 l1 A9 at3 o9) 192 [.ptr 0 0] (hR u7 l1 A9 at3 o9) (a2q l1 A9)
 Y7:∀{k1 l2 E5 at4 u6},OkF env (Φ.Y7 k1 l2 E5 at4 u6) 206 [.ptr 0 0,.i k1] (hR u7 l2 E5 at4 u6) (a2q l2 E5)
 a0p:∀{l1 A9 at3 o9},OkF env (Φ.a0p l1 A9 at3 o9) 215 [.ptr 0 0] (hR u7 l1 A9 at3 o9) (a2q l1 A9)
 a1G:∀{l1 A9 at3 o9},OkF env (Φ.a1G l1 A9 at3 o9) 227 [.ptr 0 0] (hR u7 l1 A9 at3 o9) (a2q l1 A9)
 a14:∀{l1 A9 at3 o9},OkF env (Φ.a14 l1 A9 at3 o9) 244 [.ptr 0 0] (hR u7 l1 A9 at3 o9) (a2q l1 A9)
 a0i:∀{l1 l2 E5 at4 u6},OkF env (Φ.a0i l1 l2 E5 at4 u6) 245 [.ptr 0 0,.st 1 D9 l1] [(0,.row [.sl u7 l2,.i E5,.i at4,.i u6]),(1,.tip (tpe 10 (List.length l1)) (List.length l1))] (encF38 l2 E5)
 a0c:∀{l1 A9 at3 o9},OkF env (Φ.a0c l1 A9 at3 o9) 259 [.ptr 0 0] (hR u7 l1 A9 at3 o9) (a2q l1 A9)
 a1D:∀{l1 A9 at3 o9},OkF env (Φ.a1D l1 A9 at3 o9) 260 [.ptr 0 0] (hR u7 l1 A9 at3 o9) (a2q l1 A9)
 a3b:∀{l1 A9 at3 o9},OkF env (Φ.a3b l1 A9 at3 o9) 261 [.ptr 0 0] (hR u7 l1 A9 at3 o9) (a2q l1 A9)
 Y2:∀{l1 A9 at3 o9},OkF env (Φ.Y2 l1 A9 at3 o9) 191 [.ptr 0 0] (hR u7 l1 A9 at3 o9) (a2q l1 A9)
 a2y:∀{at1 l2 E5 at4 u6},OkF env (Φ.a2y at1 l2 E5 at4 u6) 193 [.ptr 0 0,.i at1] (hR u7 l2 E5 at4 u6) (encF39 at1 l2 E5)
 a10:∀{l1 A9 at3 o9},OkF env (Φ.a10 l1 A9 at3 o9) 194 [.ptr 0 0] (hR u7 l1 A9 at3 o9) (a2q l1 A9)
attribute [instance] j4.Ok.K9 j4.Ok.a0a j4.Ok.a0W j4.Ok.a2x j4.Ok.M6 j4.Ok.Y7 j4.Ok.a0p j4.Ok.a1G j4.Ok.a14 j4.Ok.a0i j4.Ok.a0c j4.Ok.a1D j4.Ok.a3b j4.Ok.Y2 j4.Ok.a2y j4.Ok.a10
theorem b2i (n:Nat) [hΦ:j4.Ok Φ] {l1 A9 at3 o9}:OkF env (a4e n Φ l1 A9 at3 o9) 123 [.ptr 0 0] (hR u7 l1 A9 at3 o9) (a2q l1 A9):=mkF Tryz.func123 rfl (by
 intro kr r h;unfold a4e at h;exact blk)
theorem a9K (n:Nat) [hΦ:j4.Ok Φ] {l1 A9 at3 o9}:OkF env (a1P n Φ l1 A9 at3 o9) 154 [.ptr 0 0] (hR u7 l1 A9 at3 o9) (encF37 l1 A9):=mkF Tryz.func154 rfl (by
 intro kr r h;unfold a1P at h;let jn1:Jn 8 (List Nod×Int×Int):=jJ fun f H z=>([(4,.st 1 D9 z.1)],[r3 u7 l1 A9 z.2.1 z.2.2,tpl 10 z.1])
 let jl1:Jn 2 (List Nod×Int×Int):=jJ fun f H z=>([p0,(4,.st 1 D9 z.1)],[r3 u7 l1 A9 z.2.1 z.2.2,tpl 10 z.1])
 exact blk)
theorem b0c (n:Nat) [hΦ:j4.Ok Φ] {l1 A9 at3 o9}:OkF env (a2i n Φ l1 A9 at3 o9) 171 [.ptr 0 0] (hR u7 l1 A9 at3 o9) (a2q l1 A9):=mkF Tryz.func171 rfl (by
 intro kr r h;unfold a2i at h;let jn1:Jn 30004 Bool:=jJ fun f H z=>([p0,(2,.ptr 1 0),(4,lk 23 f),(24,.bool z)],[oH H 0,nz 2 3 4,t0,t0,t0])
 let jn2:Jn 30028 (Bool×Int):=jJ fun f H z=>([p0,(2,.ptr 1 0),(4,lk 4 f),(14,.ptr 2 0),(125,.bool z.1)],[.row [.sl u7 l1,.i A9,.i z.2,(cH H 0 3)],nz 3 4 5,oH H 960,t0,t0,t0])
 let ls:Nat->List Nat:=fun n=>cond (Nat.beq n 23) [832] (cond (Nat.beq n 20) [640] ([]));exact blk)
theorem b2k (n:Nat) [hΦ:j4.Ok Φ] {l1 A9 at3 o9}:OkF env (a4g n Φ l1 A9 at3 o9) 190 [.ptr 0 0] (hR u7 l1 A9 at3 o9) (a2q l1 A9):=mkF Tryz.func190 rfl (by
 intro kr r h;unfold a4g at h;let jn1:Jn 6 (Int×Int):=jJ fun f H z=>([p0,(2,.ptr 1 0),(4,.ptr 2 0)],[r3 u7 l1 A9 z.1 o9,nz 3 4 5,.row [.i 21,.str [],.i z.2,.i 0,.str [],.i 0,zs 6,zs 7,zs 8,lk 14 f],t0,t0,t0,t0,t0,t0])
 let jn2:Jn 17 (Bool×Int×Int×Str×Int×List Typ):=jJ fun f H z=>([p0,(2,.ptr 1 0),(4,.ptr 2 0),(7,.bool z.1)],[r3 u7 l1 A9 z.2.1 o9,oH H 1,.row [.i 21,lk 24 f,(cH H 2 2),.i z.2.2.1,.str z.2.2.2.1,.i z.2.2.2.2.1,.sl H7 z.2.2.2.2.2,zs 6,zs 7,(cH H 2 9)],t0,t0,t0,t0,t0])
 let jn3:Jn 24 (Int×Int×List Nod):=jJ fun f H z=>([p0,(2,.ptr 1 0),(4,.ptr 2 0)],[r3 u7 l1 A9 z.1 z.2.1,oH H 1,.row [.i 21,(cH H 2 1),(cH H 2 2),(cH H 2 3),(cH H 2 4),(cH H 2 5),ow .sealed (cH H 2 6),zs 6,.st 7 D9 z.2.2,(cH H 2 9)],t0,t0,t0,t0,tpl 10 z.2.2])
 let jn4:Jn 30023 Bool:=jJ fun f H z=>([p0,(2,.ptr 1 0),(4,.ptr 2 0),(62,.bool z)],[oH H 0,oH H 1,oH H 2,t0,t0,t0,t0,t0])
 exact blk)
theorem b2L (n:Nat) [hΦ:j4.Ok Φ] {l1 A9 at3 o9}:OkF env (a4J n Φ l1 A9 at3 o9) 192 [.ptr 0 0] (hR u7 l1 A9 at3 o9) (a2q l1 A9):=mkF Tryz.func192 rfl (by
 intro kr r h;unfold a4J at h;exact blk)
theorem b2j (n:Nat) [hΦ:j4.Ok Φ] {k1 l2 E5 at4 u6}:OkF env (a1F n Φ k1 l2 E5 at4 u6) 206 [.ptr 0 0,.i k1] (hR u7 l2 E5 at4 u6) (a2q l2 E5):=mkF Tryz.func206 rfl (by
 intro kr r h;unfold a1F at h;let jn1:Jn 21 (Bool×Int×Int×Nod):=jJ fun f H z=>([(4,.ptr 1 0),(7,.ptr 2 0),(8,.bool z.1)],[r3 u7 l2 E5 z.2.1 z.2.2.1,nz 3 4 5,rN z.2.2.2,t0,t0,t0])
 let jl1:Jn 6 (Bool×Int×Int×Int×Nod):=jJ fun f H z=>([p0,(1,.i k1),(4,.ptr 1 0),(6,.slice .sealed (List.length ([[[124,124]],[[38,38]],[[61,61],[33,61],[60],[60,61],[62],[62,61]],[[43],[45]],[[42],[47],[37]]]:List (List Str))) ((clSl clS) ([[[124,124]],[[38,38]],[[61,61],[33,61],[60],[60,61],[62],[62,61]],[[43],[45]],[[42],[47],[37]]]:List (List Str)))),(7,.ptr 2 0),(8,.bool z.1),(9,.i z.2.1)],[r3 u7 l2 E5 z.2.2.1 z.2.2.2.1,nz 3 4 5,rN z.2.2.2.2,t0,t0,t0])
 let jn2:Jn 90038 Bool:=jJ fun f H z=>([p0,(1,.i k1),(4,.ptr 1 0),(6,.slice .sealed (List.length ([[[124,124]],[[38,38]],[[61,61],[33,61],[60],[60,61],[62],[62,61]],[[43],[45]],[[42],[47],[37]]]:List (List Str))) ((clSl clS) ([[[124,124]],[[38,38]],[[61,61],[33,61],[60],[60,61],[62],[62,61]],[[43],[45]],[[42],[47],[37]]]:List (List Str)))),(7,.ptr 2 0),(8,lk 8 f),(9,lk 9 f),(38,.bool z)],[oH H 0,oH H 1,oH H 2,t0,t0,t0])
 let jn3:Jn 8 (Bool×Int×Int×Int×Str×List Nod×Int):=jJ fun f H z=>([p0,(1,.i k1),(4,.ptr 1 0),(6,.slice .sealed (List.length ([[[124,124]],[[38,38]],[[61,61],[33,61],[60],[60,61],[62],[62,61]],[[43],[45]],[[42],[47],[37]]]:List (List Str))) ((clSl clS) ([[[124,124]],[[38,38]],[[61,61],[33,61],[60],[60,61],[62],[62,61]],[[43],[45]],[[42],[47],[37]]]:List (List Str)))),(7,.ptr 2 0),(8,.bool z.1),(9,.i z.2.1)],[r3 u7 l2 E5 z.2.2.1 z.2.2.2.1,oH H 1,.row [.i 64,.str z.2.2.2.2.1,.i 0,.i 0,.str [],.i 0,zs 6,zs 7,.st 8 D9 z.2.2.2.2.2.1,.i z.2.2.2.2.2.2],t0,t0,t0,t0,t0,tpl 10 z.2.2.2.2.2.1])
 let jn4:Jn 15 (Int×Str×Int×Int×Nod):=jJ fun f H z=>([p0,(1,.i k1),(4,.ptr 1 0),(6,.slice .sealed (List.length ([[[124,124]],[[38,38]],[[61,61],[33,61],[60],[60,61],[62],[62,61]],[[43],[45]],[[42],[47],[37]]]:List (List Str))) ((clSl clS) ([[[124,124]],[[38,38]],[[61,61],[33,61],[60],[60,61],[62],[62,61]],[[43],[45]],[[42],[47],[37]]]:List (List Str)))),(7,.ptr 2 0),(9,.i z.1),(10,.str z.2.1)],[r3 u7 l2 E5 z.2.2.1 z.2.2.2.1,oH H 1,rN z.2.2.2.2,t0,t0,t0])
 let jl2:Jn 10 (Int×Str×Int×Int×Int×Nod):=jJ fun f H z=>([p0,(1,.i k1),(4,.ptr 1 0),(6,.slice .sealed (List.length ([[[124,124]],[[38,38]],[[61,61],[33,61],[60],[60,61],[62],[62,61]],[[43],[45]],[[42],[47],[37]]]:List (List Str))) ((clSl clS) ([[[124,124]],[[38,38]],[[61,61],[33,61],[60],[60,61],[62],[62,61]],[[43],[45]],[[42],[47],[37]]]:List (List Str)))),(7,.ptr 2 0),(9,.i z.1),(10,.str z.2.1),(11,.i z.2.2.1)],[r3 u7 l2 E5 z.2.2.2.1 z.2.2.2.2.1,oH H 1,rN z.2.2.2.2.2,t0,t0,t0])
 let jn5:Jn 12 Str:=jJ fun f H z=>([p0,(1,.i k1),(4,.ptr 1 0),(6,.slice .sealed (List.length ([[[124,124]],[[38,38]],[[61,61],[33,61],[60],[60,61],[62],[62,61]],[[43],[45]],[[42],[47],[37]]]:List (List Str))) ((clSl clS) ([[[124,124]],[[38,38]],[[61,61],[33,61],[60],[60,61],[62],[62,61]],[[43],[45]],[[42],[47],[37]]]:List (List Str)))),(7,.ptr 2 0),(9,lk 9 f),(10,.str z),(11,lk 11 f)],[oH H 0,oH H 1,oH H 2,t0,t0,t0])
 exact blk)
theorem b2n (n:Nat) [hΦ:j4.Ok Φ] {l1 A9 at3 o9}:OkF env (a4j n Φ l1 A9 at3 o9) 215 [.ptr 0 0] (hR u7 l1 A9 at3 o9) (a2q l1 A9):=mkF Tryz.func215 rfl (by
 intro kr r h;unfold a4j at h;exact blk)
theorem b0Z (n:Nat) [hΦ:j4.Ok Φ] {l1 A9 at3 o9}:OkF env (a3d n Φ l1 A9 at3 o9) 227 [.ptr 0 0] (hR u7 l1 A9 at3 o9) (a2q l1 A9):=mkF Tryz.func227 rfl (by
 intro kr r h;unfold a3d at h;let jn1:Jn 18 (Bool×Int×Int×Nod):=jJ fun f H z=>([(2,.ptr 1 0),(4,.ptr 2 0),(5,.bool z.1)],[r3 u7 l1 A9 z.2.1 z.2.2.1,nz 3 4 5,rN z.2.2.2,t0,t0,t0])
 let jl1:Jn 2 (Bool×Int×Int×Nod):=jJ fun f H z=>([p0,(2,.ptr 1 0),(4,.ptr 2 0),(5,.bool z.1)],[r3 u7 l1 A9 z.2.1 z.2.2.1,nz 3 4 5,rN z.2.2.2,t0,t0,t0])
 exact blk)
theorem b2J (n:Nat) [hΦ:j4.Ok Φ] {l1 A9 at3 o9}:OkF env (a1Y n Φ l1 A9 at3 o9) 244 [.ptr 0 0] (hR u7 l1 A9 at3 o9) (a2q l1 A9):=mkF Tryz.func244 rfl (by
 intro kr r h;unfold a1Y at h;let jn1:Jn 45 Int:=jJ fun f H z=>([p0,(2,.ptr 1 0)],[r3 u7 l1 A9 z o9,nz 2 3 4,t0,t0,t0])
 let jn2:Jn 43 (Int×Int×List Nod):=jJ fun f H z=>([p0,(2,.ptr 1 0),(4,.ptr 2 0)],[r3 u7 l1 A9 z.1 z.2.1,nz 3 4 5,.row [.i 67,.str [],.i 0,.i 0,.str [],.i 0,zs 6,zs 7,.st 8 D9 z.2.2,lk 23 f],t0,t0,t0,t0,t0,tpl 10 z.2.2])
 let jl1:Jn 35 (Bool×Int×Int×List Nod):=jJ fun f H z=>([p0,(2,.ptr 1 0),(4,.ptr 2 0),(15,.bool z.1)],[r3 u7 l1 A9 z.2.1 z.2.2.1,nz 3 4 5,.row [.i 67,.str [],.i 0,.i 0,.str [],.i 0,zs 6,zs 7,.st 8 D9 z.2.2.2,lk 23 f],t0,t0,t0,t0,t0,tpl 10 z.2.2.2])
 let ls:Nat->List Nat:=fun n=>cond (Nat.beq n 46) [1344] ([]);exact blk)
theorem b2I (n:Nat) [hΦ:j4.Ok Φ] {l1 l2 E5 at4 u6}:OkF env (a4I n Φ l1 l2 E5 at4 u6) 245 [.ptr 0 0,.st 1 D9 l1] [(0,.row [.sl u7 l2,.i E5,.i at4,.i u6]),(1,.tip (tpe 10 (List.length l1)) (List.length l1))] (encF38 l2 E5):=mkF Tryz.func245 rfl (by
 intro kr r h;unfold a4I at h;let jn1:Jn 19 (List Nod×Int×Int):=jJ fun f H z=>([p0,(1,.st 1 D9 z.1)],[r3 u7 l2 E5 z.2.1 z.2.2,tpl 10 z.1])
 let jl1:Jn 6 (List Nod×Bool×Int×Int):=jJ fun f H z=>([p0,(1,.st 1 D9 z.1),(6,.bool z.2.1)],[r3 u7 l2 E5 z.2.2.1 z.2.2.2,tpl 10 z.1])
 let jn2:Jn 15 (Bool×Int×Int×Nod):=jJ fun f H z=>([p0,(1,ow (.tag 1) (lk 1 f)),(8,.ptr 2 0),(9,.bool z.1)],[r3 u7 l2 E5 z.2.1 z.2.2.1,oH H 1,rN z.2.2.2])
 exact blk)
theorem a9n (n:Nat) [hΦ:j4.Ok Φ] {l1 A9 at3 o9}:OkF env (a1g n Φ l1 A9 at3 o9) 259 [.ptr 0 0] (hR u7 l1 A9 at3 o9) (a2q l1 A9):=mkF Tryz.func259 rfl (by
 intro kr r h;unfold a1g at h;let jl1:Jn 2 (Int×Int×List Nod):=jJ fun f H z=>([p0,(2,.ptr 1 0),(4,.ptr 2 0)],[r3 u7 l1 A9 z.1 z.2.1,nz 3 4 5,.row [.i 53,.str [],.i 0,.i 0,.str [],.i 0,zs 6,zs 7,.st 8 D9 z.2.2,lk 11 f],t0,t0,t0,t0,t0,tpl 10 z.2.2])
 let jn1:Jn 30011 Bool:=jJ fun f H z=>([p0,(2,.ptr 1 0),(4,.ptr 2 0),(7,.ptr 3 0),(61,.bool z)],[oH H 0,nz 4 5 6,.row [.i 53,.str [],.i 0,.i 0,.str [],.i 0,zs 7,zs 8,ow (.tag 9) (lk 38 f),(cH H 2 9)],oH H 512,t0,t0,t0,t0,t0,oH H 8])
 let ls:Nat->List Nat:=fun n=>cond (Nat.beq n 2) [0,0] ([]);exact blk)
theorem b0X (n:Nat) [hΦ:j4.Ok Φ] {l1 A9 at3 o9}:OkF env (a2Y n Φ l1 A9 at3 o9) 260 [.ptr 0 0] (hR u7 l1 A9 at3 o9) (a2q l1 A9):=mkF Tryz.func260 rfl (by
 intro kr r h;unfold a2Y at h;let jn1:Jn 15 (Int×Int×Str×Int×List Typ):=jJ fun f H z=>([p0,(2,.ptr 1 0),(4,lk 13 f),(5,.ptr 2 0),(6,ow (.tag 3) (lk 26 f))],[r3 u7 l1 A9 z.1 o9,nz 4 5 6,.row [.i 63,.str [],.i 0,.i z.2.1,.str z.2.2.1,.i z.2.2.2.1,.sl H7 z.2.2.2.2,zs 7,zs 8,lk 13 f],oH H 1664,t0,t0,t0,t0,t0])
 exact blk)
theorem b2M (n:Nat) [hΦ:j4.Ok Φ] {l1 A9 at3 o9}:OkF env (a3m n Φ l1 A9 at3 o9) 261 [.ptr 0 0] (hR u7 l1 A9 at3 o9) (a2q l1 A9):=mkF Tryz.func261 rfl (by
 intro kr r h;unfold a3m at h;let jn1:Jn 23 Int:=jJ fun f H z=>([(2,.ptr 1 0),(4,.ptr 2 0)],[r3 u7 l1 A9 z o9,nz 3 4 5,.row [.i 0,.str [],.i 0,.i 0,.str [],.i 0,zs 6,zs 7,zs 8,lk 16 f],t0,t0,t0,t0,t0,t0])
 let jl1:Jn 3 (Int×Typ):=jJ fun f H z=>([p0,(2,.ptr 1 0),(4,.ptr 2 0),(5,.ptr 3 0),(6,lk 22 f)],[r3 u7 l1 A9 z.1 o9,nz 4 5 6,.row [.i 0,.str [],.i 0,.i 0,.str [],.i 0,zs 7,zs 8,zs 9,lk 16 f],rT z.2,t0,t0,t0,t0,t0,t0])
 let ls:Nat->List Nat:=fun n=>cond (Nat.beq n 16) [3] (cond (Nat.beq n 6) [3] ([]));exact blk)
theorem a9v (n:Nat) [hΦ:j4.Ok Φ] {l1 A9 at3 o9}:OkF env (a1E n Φ l1 A9 at3 o9) 191 [.ptr 0 0] (hR u7 l1 A9 at3 o9) (a2q l1 A9):=mkF Tryz.func191 rfl (by
 intro kr r h;unfold a1E at h;let jn1:Jn 17 (Bool×Int×Int×Nod):=jJ fun f H z=>([(2,.ptr 1 0),(4,.ptr 2 0),(5,.ptr 3 0),(7,.ptr 4 0),(8,.bool z.1),(9,.ptr 5 0)],[r3 u7 l1 A9 z.2.1 z.2.2.1,nz 6 7 8,.row [.i 24,.str [],.i 0,.i 0,.str [],.i 0,zs 9,zs 10,ow (.tag 11) (lk 33 f),lk 11 f],oH H 384,oH H 512,rN z.2.2.2,t0,t0,t0,t0,t0,.tip (tpe 10 (lnV (lk 33 f))) (lnV (lk 33 f))])
 exact blk)
theorem b2l (n:Nat) [hΦ:j4.Ok Φ] {at1 l2 E5 at4 u6}:OkF env (a4h n Φ at1 l2 E5 at4 u6) 193 [.ptr 0 0,.i at1] (hR u7 l2 E5 at4 u6) (encF39 at1 l2 E5):=mkF Tryz.func193 rfl (by
 intro kr r h;unfold a4h at h;let jn1:Jn 30005 (Bool×Int):=jJ fun f H z=>([p0,(4,.ptr 1 0),(6,.ptr 2 0),(7,.ptr 3 0),(32,.bool z.1)],[.row [.sl u7 l2,.i E5,.i z.2,(cH H 0 3)],nz 4 5 6,.row [.i 26,.str [],.i 0,.i 0,.str [],.i 0,zs 7,zs 8,zs 9,.i at1],oH H 512,t0,t0,t0,t0,t0,t0])
 let jn2:Jn 18 (List Nod×Int×Int):=jJ fun f H z=>([p0,(4,.ptr 1 0),(6,.ptr 2 0),(9,.st 3 D9 z.1)],[r3 u7 l2 E5 z.2.1 z.2.2,oH H 1,oH H 2,tpl 10 z.1,t0,t0,t0,t0,t0,t0])
 let jl1:Jn 6 (List Nod×Int×Int):=jJ fun f H z=>([p0,(4,.ptr 1 0),(6,.ptr 2 0),(9,.st 3 D9 z.1)],[r3 u7 l2 E5 z.2.1 z.2.2,oH H 1,oH H 2,tpl 10 z.1,t0,t0,t0,t0,t0,t0])
 let jn3:Jn 26 (List Nod×Int×Int):=jJ fun f H z=>([p0,(4,.ptr 1 0),(6,.ptr 2 0),(9,.st 3 D9 z.1)],[r3 u7 l2 E5 z.2.1 z.2.2,oH H 1,oH H 2,tpl 10 z.1,t0,t0,t0,t0,t0,t0])
 exact blk)
theorem b1z (n:Nat) [hΦ:j4.Ok Φ] {l1 A9 at3 o9}:OkF env (a3D n Φ l1 A9 at3 o9) 194 [.ptr 0 0] (hR u7 l1 A9 at3 o9) (a2q l1 A9):=mkF Tryz.func194 rfl (by
 intro kr r h;unfold a3D at h;let ls:Nat->List Nat:=fun n=>cond (Nat.beq n 12) [512,320,320] ([]);exact blk)
theorem j4.ok:∀n,j4.Ok (j4.fs n)
 | 0=>⟨okN,okN,okN,okN,okN,okN,okN,okN,okN,okN,okN,okN,okN,okN,okN,okN⟩
 | n+1=>have:=j4.ok n;⟨b2i n,a9K n,b0c n,b2k n,b2L n,b2j n,b2n n,b0Z n,b2J n,b2I n,a9n n,b0X n,b2M n,a9v n,b2l n,b1z n⟩
instance {n:Nat}:j4.Ok (j4.fs n):=j4.ok n
instance c2O {n n1 l2 E5 at4 u6}:OkF env (a4L n n1 l2 E5 at4 u6) 69 [.ptr 0 0,.agg (cN n1)] (hR u7 l2 E5 at4 u6) (a2q l2 E5):=mkF Tryz.func69 rfl (by
 obtain⟨a7K,a7X,a7Y,⟨a7Z,a8a,a8b,a8c⟩,a8d,a3Q,a8e⟩:=n1;intro kr r h;unfold a4L at h;let jn1:Jn 30008 (Bool×Int):=jJ fun f H z=>([p0,(3,.ptr 1 0),(4,.ptr 2 0),(8,ow (.tag 3) (lk 32 f)),(40,.bool z.1)],[r3 u7 l2 E5 z.2 u6,oH H 256,nz 4 5 6,oH H 2048,t0,t0,t0])
 let jn2:Jn 23 (List Nod×Int):=jJ fun f H z=>([p0,(3,.ptr 1 0),(4,.ptr 2 0),(8,.st 3 D9 z.1)],[r3 u7 l2 E5 z.2 u6,oH H 1,oH H 2,tpl 10 z.1,t0,t0,t0])
 let jl1:Jn 8 (List Nod×Int):=jJ fun f H z=>([p0,(3,.ptr 1 0),(4,.ptr 2 0),(8,.st 3 D9 z.1)],[r3 u7 l2 E5 z.2 u6,oH H 1,oH H 2,tpl 10 z.1,t0,t0,t0])
 let jn3:Jn 90047 Bool:=jJ fun f H z=>([p0,(3,.ptr 1 0),(4,.ptr 2 0),(8,ow (.tag 3) (lk 8 f)),(47,.bool z)],[oH H 0,oH H 1,oH H 2,oH H 3,t0,t0,t0])
 let jn4:Jn 14 (Int×Int):=jJ fun f H z=>([p0,(3,.ptr 1 0),(4,.ptr 2 0),(8,ow (.tag 3) (lk 8 f)),(10,.ptr 4 0)],[r3 u7 l2 E5 z.1 u6,oH H 1,nz 5 6 7,oH H 3,.row [.i 13,.str [],.i z.2,.i 0,.str [],.i 0,zs 8,zs 9,zs 10,lk 49 f],t0,t0,t0,t0,t0,t0])
 let jn5:Jn 30016 (Bool×Int):=jJ fun f H z=>([p0,(3,.ptr 1 0),(4,.ptr 2 0),(8,ow (.tag 3) (lk 8 f)),(10,.ptr 4 0),(11,lk 59 f),(67,.bool z.1)],[r3 u7 l2 E5 z.2 u6,oH H 1,oH H 2,oH H 3,oH H 4,t0,t0,t0,t0,t0,t0])
 let jn6:Jn 30020 (Bool×Int):=jJ fun f H z=>([p0,(3,.ptr 1 0),(4,.ptr 2 0),(8,ow (.tag 3) (lk 8 f)),(10,.ptr 4 0),(13,.ptr 5 0),(82,.bool z.1)],[r3 u7 l2 E5 z.2 u6,oH H 1,nz 6 7 8,oH H 3,.row [.i 13,lk 11 f,(cH H 4 2),.i 0,.str [],.i 0,zs 9,zs 10,zs 11,(cH H 4 9)],oH H 896,t0,t0,t0,t0,t0,t0])
 let jn7:Jn 31 (List Nod×Int×Int):=jJ fun f H z=>([p0,(3,.ptr 1 0),(4,.ptr 2 0),(8,.st 3 D9 z.1)],[r3 u7 l2 E5 z.2.1 z.2.2,oH H 1,oH H 2,tpl 10 z.1,t0,t0,t0])
 exact blk)
instance c4W {n n1 l2 E5 at4 u6}:OkF env (a6R n n1 l2 E5 at4 u6) 70 [.ptr 0 0,.agg (cN n1)] (hR u7 l2 E5 at4 u6) (c1o l2 E5 u6):=mkF Tryz.func70 rfl (by
 obtain⟨a7K,a7X,a7Y,⟨a7Z,a8a,a8b,a8c⟩,a8d,a3Q,a8e⟩:=n1;intro kr r h;unfold a6R at h;let jn1:Jn 30008 (Bool×Int):=jJ fun f H z=>([p0,(3,.ptr 1 0),(4,.ptr 2 0),(8,ow (.tag 3) (lk 29 f)),(37,.bool z.1)],[r3 u7 l2 E5 z.2 u6,oH H 256,nz 4 5 6,oH H 1856,t0,t0,t0])
 let jn2:Jn 27 (List Nod×Int):=jJ fun f H z=>([p0,(3,.ptr 1 0),(4,.ptr 2 0),(8,.st 3 D9 z.1)],[r3 u7 l2 E5 z.2 u6,oH H 1,oH H 2,tpl 10 z.1,t0,t0,t0])
 let jl1:Jn 8 (List Nod×Int):=jJ fun f H z=>([p0,(3,.ptr 1 0),(4,.ptr 2 0),(8,.st 3 D9 z.1)],[r3 u7 l2 E5 z.2 u6,oH H 1,oH H 2,tpl 10 z.1,t0,t0,t0])
 let jn3:Jn 90044 Bool:=jJ fun f H z=>([p0,(3,.ptr 1 0),(4,.ptr 2 0),(8,ow (.tag 3) (lk 8 f)),(44,.bool z)],[oH H 0,oH H 1,oH H 2,oH H 3,t0,t0,t0])
 let jn4:Jn 13 (Int×Int):=jJ fun f H z=>([p0,(3,.ptr 1 0),(4,.ptr 2 0),(8,ow (.tag 3) (lk 8 f)),(10,.ptr 4 0)],[r3 u7 l2 E5 z.1 u6,oH H 1,nz 5 6 7,oH H 3,.row [.i 14,.str [],.i z.2,.i 0,.str [],.i 0,zs 8,zs 9,zs 10,lk 46 f],t0,t0,t0,t0,t0,t0])
 let jn5:Jn 24 (Int×List Typ):=jJ fun f H z=>([p0,(3,.ptr 1 0),(4,.ptr 2 0),(8,ow (.tag 3) (lk 8 f)),(10,.ptr 4 0)],[r3 u7 l2 E5 z.1 u6,oH H 1,oH H 2,oH H 3,.row [.i 14,lk 58 f,(cH H 4 2),.i 0,.str [],.i 0,zs 8,.st 9 H7 z.2,zs 10,(cH H 4 9)],t0,t0,t0,t0,tpl 4 z.2,t0])
 let jn6:Jn 30022 (Bool×Int):=jJ fun f H z=>([p0,(3,.ptr 1 0),(4,.ptr 2 0),(8,ow (.tag 3) (lk 8 f)),(10,.ptr 4 0),(13,ow (.tag 5) (lk 70 f)),(78,.bool z.1)],[r3 u7 l2 E5 z.2 u6,oH H 1,nz 6 7 8,oH H 3,.row [.i 14,lk 58 f,(cH H 4 2),.i 0,.str [],.i 0,zs 9,zs 10,zs 11,(cH H 4 9)],oH H 4480,t0,t0,t0,t0,t0,t0])
 exact blk)
instance c4s {n l1 l2 E5 at4 u6}:OkF env (a3N n l1 l2 E5 at4 u6) 126 [.ptr 0 0,.st 1 D9 l1] [(0,.row [.sl u7 l2,.i E5,.i at4,.i u6]),(1,.tip (tpe 10 (List.length l1)) (List.length l1))] (c5x l2 E5 u6):=mkF Tryz.func126 rfl (by
 intro kr r h;unfold a3N at h;let jn1:Jn 25 (List Nod×Int):=jJ fun f H z=>([(1,.st 1 D9 z.1)],[r3 u7 l2 E5 z.2 u6,tpl 10 z.1])
 let jl1:Jn 4 (List Nod×Bool×Int):=jJ fun f H z=>([p0,(1,.st 1 D9 z.1),(6,.bool z.2.1)],[r3 u7 l2 E5 z.2.2 u6,tpl 10 z.1])
 let jn2:Jn 23 (Int×Str×Int×List Typ):=jJ fun f H z=>([p0,(1,ow (.tag 1) (lk 1 f)),(7,.ptr 2 0)],[r3 u7 l2 E5 z.1 u6,oH H 1,.row [.i 12,.str z.2.1,.i z.2.2.1,(agC (lk 25 f) 0),(agC (lk 25 f) 1),(agC (lk 25 f) 2),ow .sealed (agC (lk 25 f) 3),.st 3 H7 z.2.2.2,zs 4,lk 20 f],tpl 4 z.2.2.2,t0])
 exact blk)
instance c0M {n body1 l2 E5 at4 u6}:OkF env (Q8 n body1 l2 E5 at4 u6) 73 [.ptr 0 0,.bool body1] (hR u7 l2 E5 at4 u6) (a2q l2 E5):=mkF Tryz.func73 rfl (by
 intro kr r h;unfold Q8 at h;let jn1:Jn 30011 (Bool×Int):=jJ fun f H z=>([p0,(1,.bool body1),(4,.ptr 1 0),(6,.ptr 2 0),(9,ow (.tag 3) (lk 39 f)),(47,.bool z.1)],[r3 u7 l2 E5 z.2 u6,nz 4 5 6,.row [.i 7,lk 29 f,.i 0,.i 4,.str [],.i 0,zs 7,zs 8,zs 9,lk 19 f],oH H 2496,t0,t0,t0,t0,t0,t0])
 let jn2:Jn 25 (List Nod×Int):=jJ fun f H z=>([p0,(1,.bool body1),(4,.ptr 1 0),(6,.ptr 2 0),(9,.st 3 D9 z.1)],[r3 u7 l2 E5 z.2 u6,oH H 1,oH H 2,tpl 10 z.1,t0,t0,t0,t0,t0,t0])
 let jn3:Jn 30022 (Bool×Int):=jJ fun f H z=>([p0,(1,.bool body1),(4,.ptr 1 0),(6,.ptr 2 0),(9,ow (.tag 3) (lk 53 f)),(11,.ptr 4 0),(12,.ptr 5 0),(80,.bool z.1)],[r3 u7 l2 E5 z.2 u6,nz 6 7 8,.row [.i 7,(cH H 2 1),.i 0,.i 4,.str [],.i 0,zs 9,zs 10,zs 11,(cH H 2 9)],oH H 3,.row [.i 11,.str [],.i 0,.i 0,.str [],.i 0,zs 12,zs 13,zs 14,lk 61 f],oH H 832,t0,t0,t0,t0,t0,t0,t0,t0,t0])
 let jn4:Jn 30 (Int×Int×Str×Int×List Typ):=jJ fun f H z=>([p0,(1,.bool body1),(4,.ptr 1 0),(6,.ptr 2 0),(9,ow (.tag 3) (lk 9 f))],[r3 u7 l2 E5 z.1 u6,oH H 1,.row [.i 7,(cH H 2 1),.i 0,.i z.2.1,.str z.2.2.1,.i z.2.2.2.1,.sl H7 z.2.2.2.2,zs 7,zs 8,(cH H 2 9)],oH H 3,t0,t0,t0,t0,t0])
 let jn5:Jn 39 (List Nod×Int×Int×Int):=jJ fun f H z=>([(4,.ptr 1 0),(6,.ptr 2 0),(9,.st 3 D9 z.1)],[r3 u7 l2 E5 z.2.1 z.2.2.1,oH H 1,.row [.i 7,(cH H 2 1),.i z.2.2.2,(cH H 2 3),(cH H 2 4),(cH H 2 5),ow .sealed (cH H 2 6),zs 7,zs 8,(cH H 2 9)],tpl 10 z.1,t0,t0,t0,t0,t0])
 exact blk)
end Go.Proofs.YtimgnjbjbdgmaaaGreatDoor
namespace Go.Proofs.YtimgnjbjbdgmaaaGreatDoor
open Go Go.Vm
variable {Φ:I5}
attribute [local irreducible] Go.Vm.Ev Go.Vm.Os Go.Vm.OsP Go.Vm.Lp Go.Vm.G8 Go.Vm.M7 Go.Vm.M9 Go.Vm.E
instance c0O {n n1 l2 E5 at4 u6}:OkF env (a3C n n1 l2 E5 at4 u6) 71 [.ptr 0 0,.agg (cN n1)] (hR u7 l2 E5 at4 u6) (a2q l2 E5):=mkF Tryz.func71 rfl (by
 obtain⟨a7K,a7X,a7Y,⟨a7Z,a8a,a8b,a8c⟩,a8d,a3Q,a8e⟩:=n1;intro kr r h;unfold a3C at h;let jn1:Jn 30004 (Bool×Int):=jJ fun f H z=>([p0,(3,.ptr 1 0),(4,.ptr 2 0),(6,lk 20 f),(28,.bool z.1)],[r3 u7 l2 E5 z.2 u6,oH H 256,nz 3 4 5,t0,t0,t0])
 let jn2:Jn 19 (List Nod×Int):=jJ fun f H z=>([p0,(3,.ptr 1 0),(4,.ptr 2 0),(8,.st 3 D9 z.1)],[r3 u7 l2 E5 z.2 u6,oH H 1,nz 4 5 6,tpl 10 z.1,t0,t0,t0])
 let jl1:Jn 6 (List Nod×Int):=jJ fun f H z=>([p0,(3,.ptr 1 0),(4,.ptr 2 0),(8,.st 3 D9 z.1)],[r3 u7 l2 E5 z.2 u6,oH H 1,nz 4 5 6,tpl 10 z.1,t0,t0,t0])
 let jn3:Jn 30016 (Bool×Int):=jJ fun f H z=>([p0,(3,.ptr 1 0),(4,.ptr 2 0),(8,ow (.tag 3) (lk 8 f)),(9,.ptr 4 0),(12,ow .sealed (lk 52 f)),(60,.bool z.1)],[r3 u7 l2 E5 z.2 u6,oH H 1,nz 5 6 7,oH H 3,.row [.i 16,lk 42 f,.i 0,.i 0,.str [],.i 0,zs 8,zs 9,zs 10,lk 35 f],t0,t0,t0,t0,t0,t0])
 let jn4:Jn 24 (List Nod×Int×Int):=jJ fun f H z=>([p0,(3,.ptr 1 0),(4,.ptr 2 0),(8,.st 3 D9 z.1)],[r3 u7 l2 E5 z.2.1 z.2.2,oH H 1,oH H 2,tpl 10 z.1,t0,t0,t0])
 let jl2:Jn 18 (List Nod×Int×Int):=jJ fun f H z=>([p0,(3,.ptr 1 0),(4,.ptr 2 0),(8,.st 3 D9 z.1)],[r3 u7 l2 E5 z.2.1 z.2.2,oH H 1,oH H 2,tpl 10 z.1,t0,t0,t0])
 let jn5:Jn 30022 (Bool×Int):=jJ fun f H z=>([p0,(3,.ptr 1 0),(4,.ptr 2 0),(8,ow (.tag 3) (lk 8 f)),(14,.ptr 4 0),(81,.bool z.1)],[.row [.sl u7 l2,.i E5,.i z.2,(cH H 0 3)],oH H 1,nz 5 6 7,oH H 3,oH H 960,t0,t0,t0])
 exact blk)
instance c2K {n n1 l2 E5 at4 u6}:OkF env (a4K n n1 l2 E5 at4 u6) 72 [.ptr 0 0,.agg (cN n1)] (hR u7 l2 E5 at4 u6) (a2q l2 E5):=mkF Tryz.func72 rfl (by
 obtain⟨a7K,a7X,a7Y,⟨a7Z,a8a,a8b,a8c⟩,a8d,a3Q,a8e⟩:=n1;intro kr r h;unfold a4K at h;let jn1:Jn 30004 (Bool×Int):=jJ fun f H z=>([p0,(3,.ptr 1 0),(4,.ptr 2 0),(6,.ptr 3 0),(31,.bool z.1)],[r3 u7 l2 E5 z.2 u6,oH H 256,nz 4 5 6,oH H 448,t0,t0,t0])
 let jn2:Jn 30012 (Bool×Int):=jJ fun f H z=>([p0,(3,.ptr 1 0),(4,.ptr 2 0),(10,ow (.tag 3) (lk 48 f)),(56,.bool z.1)],[r3 u7 l2 E5 z.2 u6,oH H 1,oH H 2,oH H 3072,t0,t0,t0])
 let jn3:Jn 25 (List Nod×Int):=jJ fun f H z=>([p0,(3,.ptr 1 0),(4,.ptr 2 0),(10,.st 3 D9 z.1)],[r3 u7 l2 E5 z.2 u6,oH H 1,oH H 2,tpl 10 z.1,t0,t0,t0])
 let jl1:Jn 12 (List Nod×Int):=jJ fun f H z=>([p0,(3,.ptr 1 0),(4,.ptr 2 0),(10,.st 3 D9 z.1)],[r3 u7 l2 E5 z.2 u6,oH H 1,oH H 2,tpl 10 z.1,t0,t0,t0])
 let jn4:Jn 30018 (Bool×Int):=jJ fun f H z=>([p0,(3,.ptr 1 0),(4,.ptr 2 0),(10,ow (.tag 3) (lk 10 f)),(12,.ptr 4 0),(13,lk 68 f),(76,.bool z.1)],[r3 u7 l2 E5 z.2 u6,oH H 1,nz 5 6 7,oH H 3,.row [.i 17,.str [],.i 0,.i 0,.str [],.i 0,zs 8,zs 9,zs 10,lk 61 f],t0,t0,t0,t0,t0,t0])
 let jn5:Jn 30022 (Bool×Int):=jJ fun f H z=>([p0,(3,.ptr 1 0),(4,.ptr 2 0),(10,ow (.tag 3) (lk 10 f)),(12,.ptr 4 0),(15,.ptr 5 0),(91,.bool z.1)],[r3 u7 l2 E5 z.2 u6,oH H 1,nz 6 7 8,oH H 3,.row [.i 17,lk 13 f,.i 0,.i 0,.str [],.i 0,zs 9,zs 10,zs 11,(cH H 4 9)],oH H 1024,t0,t0,t0,t0,t0,t0])
 let jn6:Jn 30 (List Nod×Int×Int):=jJ fun f H z=>([p0,(3,.ptr 1 0),(4,.ptr 2 0),(10,.st 3 D9 z.1)],[r3 u7 l2 E5 z.2.1 z.2.2,oH H 1,oH H 2,tpl 10 z.1,t0,t0,t0])
 let jl2:Jn 24 (List Nod×Int×Int):=jJ fun f H z=>([p0,(3,.ptr 1 0),(4,.ptr 2 0),(10,.st 3 D9 z.1)],[r3 u7 l2 E5 z.2.1 z.2.2,oH H 1,oH H 2,tpl 10 z.1,t0,t0,t0])
 exact blk)
instance b9i {n l1 A9 at3 o9}:OkF env (a0o n l1 A9 at3 o9) 35 [.ptr 0 0] (hR u7 l1 A9 at3 o9) (a2q l1 A9):=mkF Tryz.func35 rfl (by
 intro kr r h;unfold a0o at h;let jn1:Jn 5 (Int×Int):=jJ fun f H z=>([p0,(2,.ptr 1 0),(4,.ptr 2 0)],[r3 u7 l1 A9 z.1 o9,nz 3 4 5,.row [.i 0,.str [],.i z.2,.i 0,.str [],.i 0,zs 6,zs 7,zs 8,lk 6 f],t0,t0,t0,t0,t0,t0])
 let jn2:Jn 7 (Int×Int):=jJ fun f H z=>([p0,(2,.ptr 1 0),(4,.ptr 2 0)],[r3 u7 l1 A9 z.1 o9,oH H 1,.row [.i 0,.str [],.i z.2,.i 0,.str [],.i 0,zs 6,zs 7,zs 8,(cH H 2 9)],t0,t0,t0,t0,t0,t0])
 exact blk)
instance ref02_brace_I {t1}:OkF env (a7T t1) 74 [.agg [.i t1.kind,.str t1.text,.i t1.at_,.i t1.len]] [] (a0X):=mkF Tryz.func74 rfl (by
 intro kr r h;unfold a7T at h;exact blk)
instance ref02_begins_I {t1}:OkF env (a8x t1) 75 [.agg [.i t1.kind,.str t1.text,.i t1.at_,.i t1.len]] [] (a5D):=mkF Tryz.func75 rfl (by
 intro kr r h;unfold a8x at h;let jn1:Jn 30013 Bool:=jJ fun f H z=>([(8,.bool z)],[])
 exact blk)
instance c7O {n l1 b4Y at3}:OkF env (a6K n l1 b4Y at3) 37 [.sl u7 l1,.i b4Y,.i at3] [] (a0X):=mkF Tryz.func37 rfl (by
 intro kr r h;unfold a6K at h;let jn1:Jn 5 Int:=jJ fun f H z=>([(0,.sl u7 l1),(1,.i b4Y),(7,.i z)],[])
 let jn2:Jn 10 (Int×Int):=jJ fun f H z=>([(0,.sl u7 l1),(7,.i z.1),(8,.i z.2)],[])
 let jl1:Jn 6 (Int×Int×Int):=jJ fun f H z=>([(0,.sl u7 l1),(7,.i z.1),(8,.i z.2.1),(9,.i z.2.2)],[])
 let jn3:Jn 90025 Bool:=jJ fun f H z=>([(0,.sl u7 l1),(7,lk 7 f),(8,lk 8 f),(9,lk 9 f),(25,.bool z)],[])
 let jn4:Jn 13 Int:=jJ fun f H z=>([(0,.sl u7 l1),(7,.i z)],[])
 let jl2:Jn 9 (Int×Int):=jJ fun f H z=>([(0,.sl u7 l1),(7,.i z.1),(8,.i z.2)],[])
 let jn5:Jn 90050 Bool:=jJ fun f H z=>([(0,.sl u7 l1),(7,lk 7 f),(8,lk 8 f),(50,.bool z)],[])
 exact blk)
instance ref02_Module_I {n a3n}:OkF env (a8v n a3n) 15 [.str a3n] [] (encF25):=mkF Tryz.func15 rfl (by
 intro kr r h;unfold a8v at h;let jn1:Jn 26 (List Flt×List Nod):=jJ fun f H z=>([(2,.ptr 0 0),(7,.ptr 1 0),(9,.st 2 b4r z.1)],[nz 3 4 5,.row [.i 1,.str [],.i 0,.i 0,.str [],.i 0,zs 6,zs 7,.st 8 D9 z.2,.i 0],tpl 2 z.1,t0,t0,t0,t0,t0,tpl 10 z.2])
 let jl1:Jn 8 (Int×List Flt×Int×Int×List Nod):=jJ fun f H z=>([(2,.ptr 0 0),(4,ow .sealed (lk 19 f)),(6,.ptr 1 0),(7,.ptr 2 0),(8,.i z.1),(9,.st 3 b4r z.2.1)],[nz 4 5 6,.row [ow .sealed (lk 19 f),.i (List.length a3n:Int),.i z.2.2.1,.i z.2.2.2.1],.row [.i 1,.str [],.i 0,.i 0,.str [],.i 0,zs 7,zs 8,.st 9 D9 z.2.2.2.2,.i 0],tpl 2 z.2.1,t0,t0,t0,t0,t0,tpl 10 z.2.2.2.2])
 let jn2:Jn 90044 Bool:=jJ fun f H z=>([(2,.ptr 0 0),(4,ow .sealed (lk 4 f)),(6,.ptr 1 0),(7,.ptr 2 0),(8,lk 8 f),(9,ow (.tag 3) (lk 9 f)),(44,.bool z)],[oH H 0,oH H 1,oH H 2,oH H 3,t0,t0,t0,t0,t0,oH H 9])
 let jn3:Jn 25 (List Flt×Int):=jJ fun f H z=>([(2,.ptr 0 0),(4,ow .sealed (lk 4 f)),(6,.ptr 1 0),(7,.ptr 2 0),(8,lk 8 f),(9,.st 3 b4r z.1),(10,lk 48 f)],[oH H 0,.row [ow .sealed (lk 4 f),.i (List.length a3n:Int),(cH H 1 2),.i z.2],oH H 2,tpl 2 z.1,t0,t0,t0,t0,t0,oH H 9])
 let ls:Nat->List Nat:=fun n=>cond (Nat.beq n 3) [384] ([]);exact blk)
class I5.Ok (Φ:I5):Prop where
 a1e:∀{a1 b2},OkF env (Φ.a1e a1 b2) 82 [.agg [.i a1.kind,.str a1.name,.i a1.n,.sl H7 a1.args],.agg [.i b2.kind,.str b2.name,.i b2.n,.sl H7 b2.args]] [] (a5D)
 a1I:∀{a1 b2},OkF env (Φ.a1I a1 b2) 83 [.sl H7 a1,.sl H7 b2] [] (a5D)
attribute [instance] I5.Ok.a1e I5.Ok.a1I
theorem b6E (n:Nat) [hΦ:I5.Ok Φ] {a1 b2}:OkF env (a5m n Φ a1 b2) 82 [.agg [.i a1.kind,.str a1.name,.i a1.n,.sl H7 a1.args],.agg [.i b2.kind,.str b2.name,.i b2.n,.sl H7 b2.args]] [] (a5D):=mkF Tryz.func82 rfl (by
 obtain⟨a1_0,a1_1,a1_2,a1_3⟩:=a1;obtain⟨b2_0,b2_1,b2_2,b2_3⟩:=b2;intro kr r h;unfold a5m at h;exact blk)
theorem b5M (n:Nat) [hΦ:I5.Ok Φ] {a1 b2}:OkF env (a4x n Φ a1 b2) 83 [.sl H7 a1,.sl H7 b2] [] (a5D):=mkF Tryz.func83 rfl (by
 intro kr r h;unfold a4x at h;let jn1:Jn 9 Unit:=jJ fun f H z=>([],[])
 let jl1:Jn 4 Int:=jJ fun f H z=>([(0,.sl H7 a1),(1,.sl H7 b2),(5,.i z)],[])
 exact blk)
theorem I5.ok:∀n,I5.Ok (I5.fs n)
 | 0=>⟨okN,okN⟩
 | n+1=>have:=I5.ok n;⟨b6E n,b5M n⟩
instance {n:Nat}:I5.Ok (I5.fs n):=I5.ok n
class H9.Ok (Φ:H9):Prop where
 a1M:∀{a1 b2 at3},OkF env (Φ.a1M a1 b2 at3) 40 [.agg (c0 a1.op a1.s a1.n a1.t.kind a1.t.name a1.t.n (.sl H7 a1.t.args) (.sl H7 a1.ts) (.sl D9 a1.l) a1.at_),.agg (c0 b2.op b2.s b2.n b2.t.kind b2.t.name b2.t.n (.sl H7 b2.t.args) (.sl H7 b2.ts) (.sl D9 b2.l) b2.at_),.bool at3] [] (a5D)
 a4Y:∀{a1 b2 at3},OkF env (Φ.a4Y a1 b2 at3) 84 [.sl D9 a1,.sl D9 b2,.bool at3] [] (a5D)
attribute [instance] H9.Ok.a1M H9.Ok.a4Y
theorem b6D (n:Nat){Φ:H9} [hΦ:H9.Ok Φ] {a1 b2 at3}:OkF env (a5l n Φ a1 b2 at3) 40 [.agg (c0 a1.op a1.s a1.n a1.t.kind a1.t.name a1.t.n (.sl H7 a1.t.args) (.sl H7 a1.ts) (.sl D9 a1.l) a1.at_),.agg (c0 b2.op b2.s b2.n b2.t.kind b2.t.name b2.t.n (.sl H7 b2.t.args) (.sl H7 b2.ts) (.sl D9 b2.l) b2.at_),.bool at3] [] (a5D):=mkF Tryz.func40 rfl (by
 obtain⟨a1_0,a1_1,a1_2,⟨a1_3,a1_4,a1_5,a1_6⟩,a1_7,a1_8,a1_9⟩:=a1;obtain⟨b2_0,b2_1,b2_2,⟨b2_3,b2_4,b2_5,b2_6⟩,b2_7,b2_8,b2_9⟩:=b2;intro kr r h;unfold a5l at h;let jn1:Jn 30003 Bool:=jJ fun f H z=>([(2,.bool at3),(3,.ptr 0 0),(4,.ptr 1 0),(51,.bool z)],[oH H 256,oH H 320])
 exact blk)
theorem b5L (n:Nat){Φ:H9} [hΦ:H9.Ok Φ] {a1 b2 at3}:OkF env (a4w n Φ a1 b2 at3) 84 [.sl D9 a1,.sl D9 b2,.bool at3] [] (a5D):=mkF Tryz.func84 rfl (by
 intro kr r h;unfold a4w at h;let jn1:Jn 9 Unit:=jJ fun f H z=>([],[])
 let jl1:Jn 4 Int:=jJ fun f H z=>([(0,.sl D9 a1),(1,.sl D9 b2),(2,.bool at3),(7,.i z)],[])
 exact blk)
theorem H9.ok:∀n,H9.Ok (H9.fs n)
 | 0=>⟨okN,okN⟩
 | n+1=>have:=H9.ok n;⟨b6D n,b5L n⟩
instance {n:Nat}:H9.Ok (H9.fs n):=H9.ok n
instance ref02_Same_I {n a1 b2}:OkF env (b2h n a1 b2) 17 [.agg (c0 a1.op a1.s a1.n a1.t.kind a1.t.name a1.t.n (.sl H7 a1.t.args) (.sl H7 a1.ts) (.sl D9 a1.l) a1.at_),.agg (c0 b2.op b2.s b2.n b2.t.kind b2.t.name b2.t.n (.sl H7 b2.t.args) (.sl H7 b2.ts) (.sl D9 b2.l) b2.at_)] [] (a5D):=mkF Tryz.func17 rfl (by
 obtain⟨a1_0,a1_1,a1_2,⟨a1_3,a1_4,a1_5,a1_6⟩,a1_7,a1_8,a1_9⟩:=a1;obtain⟨b2_0,b2_1,b2_2,⟨b2_3,b2_4,b2_5,b2_6⟩,b2_7,b2_8,b2_9⟩:=b2;intro kr r h;unfold b2h at h;exact blk)
instance ref02_Valid_I {n n1}:OkF env (a9m n n1) 7 [.agg (cN n1)] [] (a5D):=mkF Tryz.func7 rfl (by
 obtain⟨a7K,a7X,a7Y,⟨a7Z,a8a,a8b,a8c⟩,a8d,a3Q,a8e⟩:=n1;intro kr r h;unfold a9m at h;let jn1:Jn 30006 Bool:=jJ fun f H z=>([(1,.ptr 0 0),(25,.bool z)],[oH H 128])
 exact blk)
instance b4N {n n1}:OkF env (a7i n n1) 3 [.agg (cN n1)] [] (a5D):=mkF Tryz.func3 rfl (by
 obtain⟨a7K,a7X,a7Y,⟨a7Z,a8a,a8b,a8c⟩,a8d,a3Q,a8e⟩:=n1;intro kr r h;unfold a7i at h;exact blk)
theorem b6O:∀l:List Str,strsOf (clS l)=some l
 | []=>rfl
 | s::r=>by
  show(match strsOf (clS r)with|some l=>some (s::l)|none=>none)=_;rw[b6O r]
theorem joinI_at {a:List Str}{b:Str}(h:(leN a.length 140737488355328&&leN (Lib.join a b).length 140737488355328)=true):b4w [.slice .sealed (List.length a) (clS a),.str b] []=some (.ret (.str (Lib.join a b)) []):=by
 rw[Bool.and_eq_true]at h;have e:eqN a.length (List.length a)=true:=a2d rfl;unfold b4w;simp only[b6O,e,h.1,h.2,gd,Bool.and_self]
end Go.Proofs.YtimgnjbjbdgmaaaGreatDoor
namespace Go.Proofs.YtimgnjbjbdgmaaaGreatDoor.Pr
open Go Go.Vm
variable {rr s1:Str}
theorem joinG_ok {elems1:List Str}{sep2:Str}(h:c3v elems1 sep2=some rr):E env (.call 38 [.sl clS elems1,.str sep2]) []=some (.ret (.str rr) []):=by
 unfold c3v at h;split at h
 ·rename_i hs;cases h;exact a7f rfl (joinI_at hs)
 cases h
theorem itoaG_ok {i1:Int}(h:b5q i1=some rr):E env (.call 172 [.i i1]) []=some (.ret (.str rr) []):=by
 unfold b5q at h;split at h
 ·rename_i hs;cases h;exact a7f rfl (by simp only[b0m,c3u,hs])
 cases h
theorem escR_ok (h:escR s1=some rr):E env (.call 174 [.str s1]) []=some (.ret (.str rr) []):=by
 unfold escR at h;split at h
 ·rename_i hs;cases h;exact a7f rfl (by simp only[b0m,Rp.escF,hs])
 cases h
theorem escG_ok (h:b6i s1=some rr):E env (.call 186 [.str s1]) []=some (.ret (.str rr) []):=by
 unfold b6i at h;split at h
 ·rename_i hs;cases h;exact a7f rfl (by simp only[b0m,Rp.escF,hs])
 cases h
def c1D (elems1:List Str)(sep2:Str):Str->Out|rr=>.ret (.str rr) []
instance {elems1:List Str}{sep2:Str}:OkF env (c3v elems1 sep2) 38 [.sl clS elems1,.str sep2] [] (c1D elems1 sep2):=⟨fun{r} h=>by
 obtain rr:=r;exact joinG_ok h⟩
def c1C (i1:Int):Str->Out|rr=>.ret (.str rr) []
instance {i1:Int}:OkF env (b5q i1) 172 [.i i1] [] (c1C i1):=⟨fun{r} h=>by
 obtain rr:=r;exact itoaG_ok h⟩
def c3l (s1:Str):Str->Out|rr=>.ret (.str rr) []
instance {s1:Str}:OkF env (escR s1) 174 [.str s1] [] (c3l s1):=⟨fun{r} h=>by
 obtain rr:=r;exact escR_ok h⟩
def c3k (s1:Str):Str->Out|rr=>.ret (.str rr) []
instance {s1:Str}:OkF env (b6i s1) 186 [.str s1] [] (c3k s1):=⟨fun{r} h=>by
 obtain rr:=r;exact escG_ok h⟩
end Go.Proofs.YtimgnjbjbdgmaaaGreatDoor.Pr
