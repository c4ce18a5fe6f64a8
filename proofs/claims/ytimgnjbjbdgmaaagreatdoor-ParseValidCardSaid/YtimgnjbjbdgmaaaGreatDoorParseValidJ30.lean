/- Texts of ParseValid, joined. -/
import Derived.Test.YtimgnjbjbdgmaaaGreatDoorParseValidJ29
set_option maxRecDepth 100000
set_option maxHeartbeats 20000000
set_option linter.all false
namespace Go.Proofs.YtimgnjbjbdgmaaaGreatDoor
open Go Go.Vm
variable {Φ:j5}
attribute [local irreducible] Go.Vm.Ev Go.Vm.Os Go.Vm.OsP Go.Vm.Lp Go.Vm.G8 Go.Vm.M7 Go.Vm.M9 Go.Vm.E
class j5.Ok (Φ:j5):Prop where
 N7:∀{d9 at2 o6},OkF env (Φ.N7 d9 at2 o6) 91 [.ptr 0 0] (hP u7 d9 at2 o6) (a3F d9 o6)
 Z9:∀{d9 at2 o6},OkF env (Φ.Z9 d9 at2 o6) 148 [.ptr 0 0] (hP u7 d9 at2 o6) (b77 d9 o6)
 a0T:∀{d9 at2 o6},OkF env (Φ.a0T d9 at2 o6) 167 [.ptr 0 0] (hP u7 d9 at2 o6) (a3F d9 o6)
 a2t:∀{d9 at2 o6},OkF env (Φ.a2t d9 at2 o6) 178 [.ptr 0 0] (hP u7 d9 at2 o6) (a3F d9 o6)
 M4:∀{d9 at2 o6},OkF env (Φ.M4 d9 at2 o6) 182 [.ptr 0 0] (hP u7 d9 at2 o6) (a3F d9 o6)
 U6:∀{d9 at2 o6},OkF env (Φ.U6 d9 at2 o6) 199 [.ptr 0 0] (hP u7 d9 at2 o6) (a3F d9 o6)
 a1v:∀{d9 at2 o6},OkF env (Φ.a1v d9 at2 o6) 211 [.ptr 0 0] (hP u7 d9 at2 o6) (a3F d9 o6)
 a11:∀{d9 at2 o6},OkF env (Φ.a11 d9 at2 o6) 222 [.ptr 0 0] (hP u7 d9 at2 o6) (a3F d9 o6)
 a0f:∀{d9 at2 o6},OkF env (Φ.a0f d9 at2 o6) 223 [.ptr 0 0] (hP u7 d9 at2 o6) (b77 d9 o6)
 a1S:∀{d9 at2 o6},OkF env (Φ.a1S d9 at2 o6) 235 [.ptr 0 0] (hP u7 d9 at2 o6) (a3F d9 o6)
 a1s:∀{d9 at2 o6},OkF env (Φ.a1s d9 at2 o6) 236 [.ptr 0 0] (hP u7 d9 at2 o6) (a3F d9 o6)
 a0R:∀{a3p a3s Z8 at4 a7r},OkF env (Φ.a0R a3p a3s Z8 at4 a7r) 201 [.ptr 0 0,.agg (c0 a3p.op a3p.s a3p.n a3p.t.kind a3p.t.name a3p.t.n (.sl H7 a3p.t.args) (.sl H7 a3p.ts) (.sl D9 a3p.l) a3p.at_),.sl a2c a3s] (hP u7 Z8 at4 a7r) (a3F Z8 a7r)
 Y0:∀{d9 at2 o6},OkF env (Φ.Y0 d9 at2 o6) 179 [.ptr 0 0] (hP u7 d9 at2 o6) (a3F d9 o6)
 a2u:∀{d9 at2 o6},OkF env (Φ.a2u d9 at2 o6) 180 [.ptr 0 0] (hP u7 d9 at2 o6) (a3F d9 o6)
 a2B:∀{op1 G5 at3 O9},OkF env (Φ.a2B op1 G5 at3 O9) 181 [.ptr 0 0,.i op1] (hP u7 G5 at3 O9) (encF22 op1 G5 O9)
attribute [instance] j5.Ok.N7 j5.Ok.Z9 j5.Ok.a0T j5.Ok.a2t j5.Ok.M4 j5.Ok.U6 j5.Ok.a1v j5.Ok.a11 j5.Ok.a0f j5.Ok.a1S j5.Ok.a1s j5.Ok.a0R j5.Ok.Y0 j5.Ok.a2u j5.Ok.a2B
theorem b1Y (n:Nat) [hΦ:j5.Ok Φ] {d9 at2 o6}:OkF env (a3X n Φ d9 at2 o6) 91 [.ptr 0 0] (hP u7 d9 at2 o6) (a3F d9 o6):=mkF Tryz.func91 rfl (by
 intro kr r h;unfold a3X at h;exact blk)
theorem a9J (n:Nat) [hΦ:j5.Ok Φ] {d9 at2 o6}:OkF env (a1O n Φ d9 at2 o6) 148 [.ptr 0 0] (hP u7 d9 at2 o6) (b77 d9 o6):=mkF Tryz.func148 rfl (by
 intro kr r h;unfold a1O at h;let jn1:Jn 5 (List Nod×Int):=jJ fun f H z=>([(3,.st 1 D9 z.1)],[r2 u7 d9 z.2 o6,tpl 10 z.1])
 let jl1:Jn 2 (List Nod×Int):=jJ fun f H z=>([p0,(3,.st 1 D9 z.1)],[r2 u7 d9 z.2 o6,tpl 10 z.1])
 exact blk)
theorem a96 (n:Nat) [hΦ:j5.Ok Φ] {d9 at2 o6}:OkF env (a2f n Φ d9 at2 o6) 167 [.ptr 0 0] (hP u7 d9 at2 o6) (a3F d9 o6):=mkF Tryz.func167 rfl (by
 intro kr r h;unfold a2f at h;let jn1:Jn 5 Str:=jJ fun f H z=>([p0,(2,.ptr 1 0),(3,.str z)],[oH H 0,nz 2 3 4,t0,t0,t0])
 let jn2:Jn 30008 Bool:=jJ fun f H z=>([p0,(2,.ptr 1 0),(23,lk 3 f),(24,.bool z)],[oH H 0,oH H 1,t0,t0,t0])
 let jn3:Jn 27 (Int×List Nod):=jJ fun f H z=>([(2,.ptr 1 0),(5,.ptr 2 0)],[r2 u7 d9 z.1 o6,nz 3 4 5,.row [.i 28,.str [],.i 0,.i 0,.str [],.i 0,.slice .sealed 0 [],zs 6,.st 7 D9 z.2,(agC (lk 67 f) 9)],t0,t0,t0,t0,tpl 10 z.2])
 let ls:Nat->List Nat:=fun n=>cond (Nat.beq n 45) [640] (cond (Nat.beq n 37) [512] (cond (Nat.beq n 18) [320] ([])));exact blk)
theorem b2a (n:Nat) [hΦ:j5.Ok Φ] {d9 at2 o6}:OkF env (a3Z n Φ d9 at2 o6) 178 [.ptr 0 0] (hP u7 d9 at2 o6) (a3F d9 o6):=mkF Tryz.func178 rfl (by
 intro kr r h;unfold a3Z at h;let jn1:Jn 6 (Int×Int):=jJ fun f H z=>([p0,(2,.ptr 1 0),(3,.ptr 2 0)],[r2 u7 d9 z.1 o6,nz 3 4 5,.row [.i 21,.str [],.i z.2,.i 0,.str [],.i 0,.slice .sealed 0 [],zs 6,zs 7,(agC (lk 6 f) 9)],t0,t0,t0,t0,t0])
 let jn2:Jn 10 (Int×Int×Str×Int×List Typ):=jJ fun f H z=>([p0,(2,.ptr 1 0),(3,.ptr 2 0),(4,lk 16 f)],[r2 u7 d9 z.1 o6,oH H 1,.row [.i 21,lk 13 f,(cH H 2 2),.i z.2.1,.str z.2.2.1,.i z.2.2.2.1,.sl H7 z.2.2.2.2,zs 6,zs 7,(cH H 2 9)],t0,t0,t0,t0,t0])
 let jn3:Jn 30011 (Bool×Int):=jJ fun f H z=>([p0,(2,.ptr 1 0),(3,.ptr 2 0),(30,.bool z.1)],[r2 u7 d9 z.2 o6,oH H 1,oH H 2,t0,t0,t0,t0,t0])
 exact blk)
theorem b2D (n:Nat) [hΦ:j5.Ok Φ] {d9 at2 o6}:OkF env (a4E n Φ d9 at2 o6) 182 [.ptr 0 0] (hP u7 d9 at2 o6) (a3F d9 o6):=mkF Tryz.func182 rfl (by
 intro kr r h;unfold a4E at h;exact blk)
theorem b2c (n:Nat) [hΦ:j5.Ok Φ] {d9 at2 o6}:OkF env (a4b n Φ d9 at2 o6) 199 [.ptr 0 0] (hP u7 d9 at2 o6) (a3F d9 o6):=mkF Tryz.func199 rfl (by
 intro kr r h;unfold a4b at h;let jn1:Jn 7 (Int×Int):=jJ fun f H z=>([p0,(2,.ptr 1 0),(3,.ptr 2 0)],[r2 u7 d9 z.1 o6,nz 3 4 5,.row [.i z.2,.str [],.i 0,.i 0,.str [],.i 0,.slice .sealed 0 [],zs 6,zs 7,(agC (lk 5 f) 9)],t0,t0,t0,t0,t0])
 exact blk)
theorem b0S (n:Nat) [hΦ:j5.Ok Φ] {d9 at2 o6}:OkF env (a2S n Φ d9 at2 o6) 211 [.ptr 0 0] (hP u7 d9 at2 o6) (a3F d9 o6):=mkF Tryz.func211 rfl (by
 intro kr r h;unfold a2S at h;let jl1:Jn 4 (Bool×Int×Nod):=jJ fun f H z=>([p0,(2,.ptr 1 0),(3,.bool z.1),(4,.ptr 2 0)],[r2 u7 d9 z.2.1 o6,nz 3 4 5,rN z.2.2,t0,t0,t0])
 let jn1:Jn 17 (Int×Int×Str×List Nod):=jJ fun f H z=>([p0,(2,.ptr 1 0),(4,.ptr 2 0)],[r2 u7 d9 z.1 o6,oH H 1,.row [.i z.2.1,.str z.2.2.1,.i 0,.i 0,.str [],.i 0,zs 6,zs 7,.sl D9 z.2.2.2,(cH H 2 9)],t0,t0,t0,t0,t0])
 let jn2:Jn 10 (Int×Int×List Nod):=jJ fun f H z=>([p0,(2,.ptr 1 0),(4,.ptr 2 0),(5,.ptr 3 0)],[r2 u7 d9 z.1 o6,nz 4 5 6,oH H 2,.row [.i z.2.1,lk 16 f,.i 0,.i 0,.str [],.i 0,zs 7,zs 8,.st 9 D9 z.2.2,lk 18 f],t0,t0,t0,t0,t0,tpl 10 z.2.2])
 let ls:Nat->List Nat:=fun n=>cond (Nat.beq n 14) [448] (cond (Nat.beq n 12) [2,2] (cond (Nat.beq n 8) [384] (cond (Nat.beq n 5) [2,2] ([]))));exact blk)
theorem b2C (n:Nat) [hΦ:j5.Ok Φ] {d9 at2 o6}:OkF env (a1R n Φ d9 at2 o6) 222 [.ptr 0 0] (hP u7 d9 at2 o6) (a3F d9 o6):=mkF Tryz.func222 rfl (by
 intro kr r h;unfold a1R at h;let jn1:Jn 37 (Int×Int×Str×Int×Int×Str×Int×List Typ×List Nod):=jJ fun f H z=>([(2,.ptr 1 0),(3,.ptr 2 0)],[r2 u7 d9 z.1 o6,nz 3 4 5,.row [.i z.2.1,.str z.2.2.1,.i z.2.2.2.1,.i z.2.2.2.2.1,.str z.2.2.2.2.2.1,.i z.2.2.2.2.2.2.1,.sl H7 z.2.2.2.2.2.2.2.1,zs 6,.sl D9 z.2.2.2.2.2.2.2.2,(agC (lk 6 f) 9)],t0,t0,t0,t0])
 let jn2:Jn 30 (Int×List Nod):=jJ fun f H z=>([p0,(2,.ptr 1 0),(3,.ptr 2 0)],[r2 u7 d9 z.1 o6,nz 3 4 5,.row [.i 67,.str [],.i 0,.i 0,.str [],.i 0,.slice .sealed 0 [],zs 6,.st 7 D9 z.2,(agC (lk 6 f) 9)],t0,t0,t0,t0,tpl 10 z.2])
 let jl1:Jn 27 (Int×List Nod):=jJ fun f H z=>([p0,(2,.ptr 1 0),(3,.ptr 2 0)],[r2 u7 d9 z.1 o6,nz 3 4 5,.row [.i 67,.str [],.i 0,.i 0,.str [],.i 0,.slice .sealed 0 [],zs 6,.st 7 D9 z.2,(agC (lk 6 f) 9)],t0,t0,t0,t0,tpl 10 z.2])
 let ls:Nat->List Nat:=fun n=>cond (Nat.beq n 28) [2] (cond (Nat.beq n 26) [256] ([]));exact blk)
theorem b2B (n:Nat) [hΦ:j5.Ok Φ] {d9 at2 o6}:OkF env (a4D n Φ d9 at2 o6) 223 [.ptr 0 0] (hP u7 d9 at2 o6) (b77 d9 o6):=mkF Tryz.func223 rfl (by
 intro kr r h;unfold a4D at h;let jn1:Jn 12 (List Nod×Int):=jJ fun f H z=>([p0,(3,.st 1 D9 z.1)],[r2 u7 d9 z.2 o6,tpl 10 z.1])
 let jl1:Jn 5 (List Nod×Int):=jJ fun f H z=>([p0,(3,.st 1 D9 z.1)],[r2 u7 d9 z.2 o6,tpl 10 z.1])
 let jn2:Jn 11 (List Nod×Int):=jJ fun f H z=>([p0,(3,.st 1 D9 z.1)],[r2 u7 d9 z.2 o6,tpl 10 z.1])
 exact blk)
theorem b1p (n:Nat) [hΦ:j5.Ok Φ] {d9 at2 o6}:OkF env (a3x n Φ d9 at2 o6) 235 [.ptr 0 0] (hP u7 d9 at2 o6) (a3F d9 o6):=mkF Tryz.func235 rfl (by
 intro kr r h;unfold a3x at h;let jl1:Jn 5 (Int×List Nod×Str×Int):=jJ fun f H z=>([p0,(2,.ptr 1 0),(3,.ptr 2 0),(4,.ptr 3 0)],[r2 u7 d9 z.1 o6,nz 4 5 6,.row [.i 53,.str [],.i 0,.i 0,.str [],.i 0,.slice .sealed 0 [],zs 7,.st 8 D9 z.2.1,(agC (lk 6 f) 9)],.row [.i 52,.str z.2.2.1,.i 0,.i 0,.str [],.i 0,.slice .sealed 0 [],zs 9,zs 10,.i z.2.2.2],t0,t0,t0,t0,tpl 10 z.2.1,t0,t0])
 let ls:Nat->List Nat:=fun n=>cond (Nat.beq n 5) [2] ([]);exact blk)
theorem b0P (n:Nat) [hΦ:j5.Ok Φ] {d9 at2 o6}:OkF env (a2O n Φ d9 at2 o6) 236 [.ptr 0 0] (hP u7 d9 at2 o6) (a3F d9 o6):=mkF Tryz.func236 rfl (by
 intro kr r h;unfold a2O at h;exact blk)
theorem b1Z (n:Nat) [hΦ:j5.Ok Φ] {a3p a3s Z8 at4 a7r}:OkF env (a3Y n Φ a3p a3s Z8 at4 a7r) 201 [.ptr 0 0,.agg (c0 a3p.op a3p.s a3p.n a3p.t.kind a3p.t.name a3p.t.n (.sl H7 a3p.t.args) (.sl H7 a3p.ts) (.sl D9 a3p.l) a3p.at_),.sl a2c a3s] (hP u7 Z8 at4 a7r) (a3F Z8 a7r):=mkF Tryz.func201 rfl (by
 obtain⟨first1_0,first1_1,first1_2,⟨first1_3,first1_4,first1_5,first1_6⟩,first1_7,first1_8,first1_9⟩:=a3p;intro kr r h;unfold a3Y at h;let jn1:Jn 15 (Int×Nod):=jJ fun f H z=>([(6,.ptr 1 0),(7,.ptr 2 0)],[r2 u7 Z8 z.1 a7r,nz 3 4 5,rN z.2,t0,t0,t0])
 let jl1:Jn 3 (Int×Int×Nod):=jJ fun f H z=>([p0,(2,.sl a2c a3s),(6,.ptr 1 0),(7,.ptr 2 0),(14,.i (List.length a3s:Int)),(15,.i z.1)],[r2 u7 Z8 z.2.1 a7r,nz 3 4 5,rN z.2.2,t0,t0,t0])
 let jn2:Jn 14 (Int×Int×Nod):=jJ fun f H z=>([p0,(2,.sl a2c a3s),(6,.ptr 1 0),(7,.ptr 2 0),(14,.i (List.length a3s:Int)),(15,.i z.1)],[r2 u7 Z8 z.2.1 a7r,oH H 1,rN z.2.2,t0,t0,t0])
 let jl2:Jn 6 (Int×Int×Int×Nod):=jJ fun f H z=>([p0,(2,.sl a2c a3s),(6,.ptr 1 0),(7,.ptr 2 0),(9,.i z.1),(14,.i (List.length a3s:Int)),(15,.i z.2.1)],[r2 u7 Z8 z.2.2.1 a7r,oH H 1,rN z.2.2.2,t0,t0,t0])
 let jn3:Jn 90065 Bool:=jJ fun f H z=>([p0,(2,.sl a2c a3s),(6,.ptr 1 0),(7,.ptr 2 0),(9,lk 9 f),(14,.i (List.length a3s:Int)),(15,lk 15 f),(65,.bool z)],[oH H 0,oH H 1,oH H 2,t0,t0,t0])
 let ls:Nat->List Nat:=fun n=>cond (Nat.beq n 9) [] (cond (Nat.beq n 7) [2,0,0] ([]));exact blk)
theorem a9u (n:Nat) [hΦ:j5.Ok Φ] {d9 at2 o6}:OkF env (a1t n Φ d9 at2 o6) 179 [.ptr 0 0] (hP u7 d9 at2 o6) (a3F d9 o6):=mkF Tryz.func179 rfl (by
 intro kr r h;unfold a1t at h;let jn1:Jn 12 (Int×List Nod):=jJ fun f H z=>([(2,.ptr 1 0),(3,.ptr 2 0)],[r2 u7 d9 z.1 o6,nz 3 4 5,.row [.i 24,.str [],.i 0,.i 0,.str [],.i 0,.slice .sealed 0 [],zs 6,.st 7 D9 z.2,(agC (lk 6 f) 9)],t0,t0,t0,t0,tpl 10 z.2])
 let jn2:Jn 11 (Int×Nod):=jJ fun f H z=>([(2,.ptr 1 0),(3,.ptr 2 0),(4,.ptr 3 0)],[r2 u7 d9 z.1 o6,nz 4 5 6,.row [.i 24,.str [],.i 0,.i 0,.str [],.i 0,.slice .sealed 0 [],zs 7,ow (.tag 8) (lk 18 f),(agC (lk 6 f) 9)],rN z.2,t0,t0,t0,t0,oH H 1216])
 let ls:Nat->List Nat:=fun n=>cond (Nat.beq n 4) [256] ([]);exact blk)
theorem b2b (n:Nat) [hΦ:j5.Ok Φ] {d9 at2 o6}:OkF env (a4a n Φ d9 at2 o6) 180 [.ptr 0 0] (hP u7 d9 at2 o6) (a3F d9 o6):=mkF Tryz.func180 rfl (by
 intro kr r h;unfold a4a at h;let jn1:Jn 12 (Int×List Nod):=jJ fun f H z=>([p0,(2,.ptr 1 0),(3,.ptr 2 0)],[r2 u7 d9 z.1 o6,nz 3 4 5,.row [.i 26,.str [],.i 0,.i 0,.str [],.i 0,.slice .sealed 0 [],zs 6,.st 7 D9 z.2,(agC (lk 8 f) 9)],t0,t0,t0,t0,tpl 10 z.2])
 let jl1:Jn 5 (Int×List Nod):=jJ fun f H z=>([p0,(2,.ptr 1 0),(3,.ptr 2 0)],[r2 u7 d9 z.1 o6,nz 3 4 5,.row [.i 26,.str [],.i 0,.i 0,.str [],.i 0,.slice .sealed 0 [],zs 6,.st 7 D9 z.2,(agC (lk 8 f) 9)],t0,t0,t0,t0,tpl 10 z.2])
 let jn2:Jn 17 (Int×List Nod):=jJ fun f H z=>([p0,(2,.ptr 1 0),(3,.ptr 2 0)],[r2 u7 d9 z.1 o6,oH H 1,.row [.i 26,.str [],.i 0,.i 0,.str [],.i 0,.slice .sealed 0 [],zs 6,.st 7 D9 z.2,(cH H 2 9)],t0,t0,t0,t0,tpl 10 z.2])
 let ls:Nat->List Nat:=fun n=>cond (Nat.beq n 14) [384] (cond (Nat.beq n 9) [320] ([]));exact blk)
theorem b3j (n:Nat) [hΦ:j5.Ok Φ] {op1 G5 at3 O9}:OkF env (a5i n Φ op1 G5 at3 O9) 181 [.ptr 0 0,.i op1] (hP u7 G5 at3 O9) (encF22 op1 G5 O9):=mkF Tryz.func181 rfl (by
 intro kr r h;unfold a5i at h;exact blk)
theorem j5.ok:∀n,j5.Ok (j5.fs n)
 | 0=>⟨okN,okN,okN,okN,okN,okN,okN,okN,okN,okN,okN,okN,okN,okN,okN⟩
 | n+1=>have:=j5.ok n;⟨b1Y n,a9J n,a96 n,b2a n,b2D n,b2c n,b0S n,b2C n,b2B n,b1p n,b0P n,b1Z n,a9u n,b2b n,b3j n⟩
instance {n:Nat}:j5.Ok (j5.fs n):=j5.ok n
instance c0D {n d9 at2 o6}:OkF env (a09 n d9 at2 o6) 46 [.ptr 0 0] (hP u7 d9 at2 o6) (a3F d9 o6):=mkF Tryz.func46 rfl (by
 intro kr r h;unfold a09 at h;let ls:Nat->List Nat:=fun n=>cond (Nat.beq n 3) [256] ([]);exact blk)
instance c2z {n d9 at2 o6}:OkF env (a4F n d9 at2 o6) 45 [.ptr 0 0] (hP u7 d9 at2 o6) (a3F d9 o6):=mkF Tryz.func45 rfl (by
 intro kr r h;unfold a4F at h;let jn1:Jn 17 (Int×List Nod):=jJ fun f H z=>([p0,(2,.ptr 1 0),(3,.ptr 2 0)],[r2 u7 d9 z.1 o6,nz 3 4 5,.row [.i 6,lk 16 f,.i 0,(agC (lk 11 f) 0),(agC (lk 11 f) 1),(agC (lk 11 f) 2),ow .sealed (agC (lk 11 f) 3),zs 6,.st 7 D9 z.2,(agC (lk 7 f) 9)],t0,t0,t0,t0,tpl 10 z.2])
 let jl1:Jn 8 (Int×List Nod):=jJ fun f H z=>([p0,(2,.ptr 1 0),(3,.ptr 2 0)],[r2 u7 d9 z.1 o6,nz 3 4 5,.row [.i 6,lk 16 f,.i 0,(agC (lk 11 f) 0),(agC (lk 11 f) 1),(agC (lk 11 f) 2),ow .sealed (agC (lk 11 f) 3),zs 6,.st 7 D9 z.2,(agC (lk 7 f) 9)],t0,t0,t0,t0,tpl 10 z.2])
 let jn2:Jn 20 (Int×List Nod):=jJ fun f H z=>([p0,(2,.ptr 1 0),(3,.ptr 2 0)],[r2 u7 d9 z.1 o6,oH H 1,.row [.i 6,(cH H 2 1),.i 0,(cH H 2 3),(cH H 2 4),(cH H 2 5),ow .sealed (cH H 2 6),zs 6,.st 7 D9 z.2,(cH H 2 9)],t0,t0,t0,t0,tpl 10 z.2])
 let jl2:Jn 16 (Int×List Nod):=jJ fun f H z=>([p0,(2,.ptr 1 0),(3,.ptr 2 0)],[r2 u7 d9 z.1 o6,oH H 1,.row [.i 6,(cH H 2 1),.i 0,(cH H 2 3),(cH H 2 4),(cH H 2 5),ow .sealed (cH H 2 6),zs 6,.st 7 D9 z.2,(cH H 2 9)],t0,t0,t0,t0,tpl 10 z.2])
 exact blk)
instance c2A {n d9 at2 o6}:OkF env (a4G n d9 at2 o6) 51 [.ptr 0 0] (hP u7 d9 at2 o6) (b77 d9 o6):=mkF Tryz.func51 rfl (by
 intro kr r h;unfold a4G at h;let jn1:Jn 14 (List Nod×Int):=jJ fun f H z=>([p0,(3,.st 1 D9 z.1)],[r2 u7 d9 z.2 o6,tpl 10 z.1])
 let jl1:Jn 3 (List Nod×Int):=jJ fun f H z=>([p0,(3,.st 1 D9 z.1)],[r2 u7 d9 z.2 o6,tpl 10 z.1])
 let jn2:Jn 90013 Bool:=jJ fun f H z=>([p0,(3,ow (.tag 1) (lk 3 f)),(13,.bool z)],[oH H 0,oH H 1])
 let jn3:Jn 9 (Int×Int):=jJ fun f H z=>([p0,(3,ow (.tag 1) (lk 3 f)),(4,.ptr 2 0)],[r2 u7 d9 z.1 o6,oH H 1,.row [.i 13,.str [],.i z.2,.i 0,.str [],.i 0,.slice .sealed 0 [],zs 3,zs 4,(agC (lk 15 f) 9)],t0,t0])
 let jn4:Jn 18 (List Nod×Int):=jJ fun f H z=>([p0,(3,.st 1 D9 z.1)],[r2 u7 d9 z.2 o6,tpl 10 z.1])
 exact blk)
instance c3W {n d9 at2 o6}:OkF env (a6z n d9 at2 o6) 52 [.ptr 0 0] (hP u7 d9 at2 o6) (encF12 d9 o6):=mkF Tryz.func52 rfl (by
 intro kr r h;unfold a6z at h;let jn1:Jn 17 (List Nod×Int):=jJ fun f H z=>([(3,.st 1 D9 z.1)],[r2 u7 d9 z.2 o6,tpl 10 z.1])
 let jl1:Jn 3 (List Nod×Int):=jJ fun f H z=>([p0,(3,.st 1 D9 z.1)],[r2 u7 d9 z.2 o6,tpl 10 z.1])
 let jn2:Jn 8 (Int×Int):=jJ fun f H z=>([p0,(3,ow (.tag 1) (lk 3 f)),(4,.ptr 2 0)],[r2 u7 d9 z.1 o6,oH H 1,.row [.i 14,.str [],.i z.2,.i 0,.str [],.i 0,.slice .sealed 0 [],zs 3,zs 4,(agC (lk 11 f) 9)],t0,t0])
 let jn3:Jn 15 (List Nod×Int×Int×List Typ):=jJ fun f H z=>([p0,(3,.st 1 D9 z.1),(4,.ptr 2 0)],[r2 u7 d9 z.2.1 o6,tpl 10 z.1,.row [.i 14,lk 18 f,.i z.2.2.1,.i 0,.str [],.i 0,.slice .sealed 0 [],.st 3 H7 z.2.2.2,zs 4,(cH H 2 9)],tpl 4 z.2.2.2,t0])
 let jn4:Jn 14 (List Nod×Int×Int×List Typ):=jJ fun f H z=>([p0,(3,.st 1 D9 z.1),(4,.ptr 2 0)],[r2 u7 d9 z.2.1 o6,tpl 10 z.1,.row [.i 14,lk 18 f,.i z.2.2.1,.i 0,.str [],.i 0,.slice .sealed 0 [],.st 3 H7 z.2.2.2,zs 4,(cH H 2 9)],tpl 4 z.2.2.2,t0])
 let jl2:Jn 11 (List Nod×Int×Int×List Typ):=jJ fun f H z=>([p0,(3,.st 1 D9 z.1),(4,.ptr 2 0)],[r2 u7 d9 z.2.1 o6,tpl 10 z.1,.row [.i 14,lk 18 f,.i z.2.2.1,.i 0,.str [],.i 0,.slice .sealed 0 [],.st 3 H7 z.2.2.2,zs 4,(cH H 2 9)],tpl 4 z.2.2.2,t0])
 let ls:Nat->List Nat:=fun n=>cond (Nat.beq n 12) [2] (cond (Nat.beq n 10) [2] ([]));exact blk)
instance b83 {n d9 at2 o6}:OkF env (a0m n d9 at2 o6) 24 [.ptr 0 0] (hP u7 d9 at2 o6) (a3F d9 o6):=mkF Tryz.func24 rfl (by
 intro kr r h;unfold a0m at h;let jn1:Jn 17 (Int×Int):=jJ fun f H z=>([p0,(2,.ptr 1 0),(3,.ptr 2 0)],[r2 u7 d9 z.1 o6,nz 3 4 5,.row [.i 2,.str [],.i z.2,.i 0,.str [],.i 0,.slice .sealed 0 [],zs 6,zs 7,(agC (lk 20 f) 9)],t0,t0,t0,t0,t0])
 let jn2:Jn 19 (Int×Int):=jJ fun f H z=>([p0,(2,.ptr 1 0),(3,.ptr 2 0)],[r2 u7 d9 z.1 o6,oH H 1,.row [.i 2,.str [],.i z.2,.i 0,.str [],.i 0,.slice .sealed 0 [],zs 6,zs 7,(cH H 2 9)],t0,t0,t0,t0,t0])
 let jn3:Jn 30020 (Bool×Int):=jJ fun f H z=>([p0,(2,.ptr 1 0),(3,.ptr 2 0),(56,.bool z.1)],[r2 u7 d9 z.2 o6,oH H 1,oH H 2,t0,t0,t0,t0,t0])
 let ls:Nat->List Nat:=fun n=>cond (Nat.beq n 27) [2] (cond (Nat.beq n 22) [2] (cond (Nat.beq n 12) [256] ([])));exact blk)
instance c7I {n d9 at2 o6 op4 s5 n6 b2x b2y n9 a6U ts11 l12 at13 b6o b8o b8p}:OkF env (a7F n d9 at2 o6 op4 s5 n6 b2x b2y n9 a6U ts11 l12 at13 b6o b8o b8p) 23 [.ptr 1 0,.ptr 2 0] [(0,.row [.sl u7 d9,.i at2,.i o6]),(1,.row [.ptr 0 0]),(2,.row (c0 op4 s5 n6 b2x b2y n9 (.sl H7 a6U) (.sl H7 ts11) (.sl D9 l12) at13)),(3,.tip (tpe 4 (List.length b6o)) (List.length b6o)),(4,.tip (tpe 4 (List.length b8o)) (List.length b8o)),(5,.tip (tpe 10 (List.length b8p)) (List.length b8p))] (encF23 d9 o6 op4 s5 n6 b2x b2y n9 a6U ts11 l12 at13 b6o b8o b8p):=mkF Tryz.func23 rfl (by
 intro kr r h;unfold a7F at h;exact blk)
instance c1U {n d9 at2 o6 op4 s5 n6 b2x b2y n9 a6U ts11 l12 at13}:OkF env (a5T n d9 at2 o6 op4 s5 n6 b2x b2y n9 a6U ts11 l12 at13) 22 [.ptr 0 0,.func (.func 23) [] [.ptr 1 0,.ptr 2 0]] [(0,.row [.sl u7 d9,.i at2,.i o6]),(1,.row [.ptr 0 0]),(2,.row (c0 op4 s5 n6 b2x b2y n9 (.st 3 H7 a6U) (.st 4 H7 ts11) (.st 5 D9 l12) at13)),(3,.tip (tpe 4 (List.length a6U)) (List.length a6U)),(4,.tip (tpe 4 (List.length ts11)) (List.length ts11)),(5,.tip (tpe 10 (List.length l12)) (List.length l12))] (b0Q d9 at2 o6 op4 s5 n6 b2x b2y n9 a6U ts11 l12 at13):=⟨fun{r} h=>by
 unfold a5T at h;rcases c77 h with⟨⟨at14,n15⟩,g1,h⟩ |⟨⟨e16,at17⟩,g2,h⟩
 ·obtain⟨n15_0,n15_1,n15_2,⟨n15_3,n15_4,n15_5,n15_6⟩,n15_7,n15_8,n15_9⟩:=n15;cases h;exact E_via rfl rfl (OkF.ok g1) rfl
 ·cases h;exact E_via rfl rfl (OkF.ok g2) rfl⟩
instance c2D {n b6N G5 at3 O9}:OkF env (a4H n b6N G5 at3 O9) 25 [.ptr 0 0,.i b6N] (hP u7 G5 at3 O9) (encF24 G5 O9):=mkF Tryz.func25 rfl (by
 intro kr r h;unfold a4H at h;let jn1:Jn 3 (Int):=⟨fun fr H z=>([(0,.ptr 0 0),(1,.i b6N)],(hP u7 G5 z O9))⟩
 let jn2:Jn 14 (Int):=⟨fun fr H z=>([(0,.ptr 0 0)],(hP u7 G5 z O9))⟩
 let jl1:Jn 4 (Int×Int×Int):=jJ fun f H z=>([p0,(4,.i z.1),(5,.i z.2.1)],[r2 u7 G5 z.2.2 O9])
 let jn3:Jn 6 Int:=jJ fun f H z=>([p0,(4,.i z),(5,lk 5 f)],[oH H 0])
 let jn4:Jn 30009 Bool:=jJ fun f H z=>([p0,(4,lk 4 f),(5,lk 5 f),(6,.ptr 1 0),(57,.bool z)],[oH H 0,oH H 448])
 let jn5:Jn 30011 Bool:=jJ fun f H z=>([p0,(4,lk 4 f),(5,lk 5 f),(6,.ptr 1 0),(69,.bool z)],[oH H 0,oH H 1])
 let jn6:Jn 30013 Bool:=jJ fun f H z=>([p0,(4,lk 4 f),(5,lk 5 f),(79,.bool z)],[oH H 0])
 exact blk)
instance parse_Module_I {n a3n}:OkF env (a2m n a3n) 10 [.str a3n] [] (encF25):=mkF Tryz.func10 rfl (by
 intro kr r h;unfold a2m at h;let jn1:Jn 22 (List Flt×List Nod):=jJ fun f H z=>([(2,.ptr 0 0),(6,.ptr 1 0),(8,.st 2 b4r z.1)],[nz 3 4 5,.row [.i 1,.str [],.i 0,.i 0,.str [],.i 0,zs 6,zs 7,.st 8 D9 z.2,.i 0],tpl 2 z.1,t0,t0,t0,t0,t0,tpl 10 z.2])
 let jl1:Jn 7 (Int×List Flt×List Nod×Int):=jJ fun f H z=>([(2,.ptr 0 0),(4,.ptr 1 0),(6,.ptr 2 0),(7,.i z.1),(8,.st 3 b4r z.2.1)],[nz 4 5 6,.row [.ptr 7 0],.row [.i 1,.str [],.i 0,.i 0,.str [],.i 0,zs 8,zs 9,.st 10 D9 z.2.2.1,.i 0],tpl 2 z.2.1,t0,t0,t0,.row [ow .sealed (cH H 1152 0),.i z.2.2.2,.i (List.length a3n:Int)],t0,t0,tpl 10 z.2.2.1])
 let jn2:Jn 90041 Bool:=jJ fun f H z=>([(2,.ptr 0 0),(4,.ptr 1 0),(6,.ptr 2 0),(7,lk 7 f),(8,ow (.tag 3) (lk 8 f)),(41,.bool z)],[oH H 0,.row [.ptr 7 0],oH H 2,oH H 3,t0,t0,t0,oH H 7,t0,t0,oH H 10])
 let ls:Nat->List Nat:=fun n=>cond (Nat.beq n 3) [384] ([]);exact blk)
instance law02_awake_I {n}:OkF env (a7Q n) 5 [] [] (a5D):=mkF Tryz.func5 rfl (by
 intro kr r h;unfold a7Q at h;exact blk)
class I6.Ok (Φ:I6):Prop where
 a2U:∀{a1 b2},OkF env (Φ.a2U a1 b2) 31 [.agg [.i a1.kind,.str a1.name,.i a1.n,.sl H7 a1.args],.agg [.i b2.kind,.str b2.name,.i b2.n,.sl H7 b2.args]] [] (a5D)
 a0y:∀{a1 b2},OkF env (Φ.a0y a1 b2) 32 [.sl H7 a1,.sl H7 b2,.func (.func 31) [] []] [] (a5D)
attribute [instance] I6.Ok.a2U I6.Ok.a0y
theorem b4R (n:Nat){Φ:I6} [hΦ:I6.Ok Φ] {a1 b2}:OkF env (a6l n Φ a1 b2) 31 [.agg [.i a1.kind,.str a1.name,.i a1.n,.sl H7 a1.args],.agg [.i b2.kind,.str b2.name,.i b2.n,.sl H7 b2.args]] [] (a5D):=mkF Tryz.func31 rfl (by
 obtain⟨a1_0,a1_1,a1_2,a1_3⟩:=a1;obtain⟨b2_0,b2_1,b2_2,b2_3⟩:=b2;intro kr r h;unfold a6l at h;exact blk)
theorem b1r (n:Nat){Φ:I6} [hΦ:I6.Ok Φ] {a1 b2}:OkF env (a3A n Φ a1 b2) 32 [.sl H7 a1,.sl H7 b2,.func (.func 31) [] []] [] (a5D):=mkF Tryz.func32 rfl (by
 intro kr r h;unfold a3A at h;let jn1:Jn 10 Unit:=jJ fun f H z=>([],[])
 let jl1:Jn 4 Int:=jJ fun f H z=>([(0,.sl H7 a1),(1,.sl H7 b2),(2,.func (.func 31) [] []),(14,.i (List.length a1:Int)),(15,.i z)],[])
 exact blk)
theorem I6.ok:∀n,I6.Ok (I6.fs n)
 | 0=>⟨okN,okN⟩
 | n+1=>have:=I6.ok n;⟨b4R n,b1r n⟩
instance {n:Nat}:I6.Ok (I6.fs n):=I6.ok n
class M0.Ok (Φ:M0):Prop where
 a6y:∀{a1 b2},OkF env (Φ.a6y a1 b2) 13 [.agg (c0 a1.op a1.s a1.n a1.t.kind a1.t.name a1.t.n (.sl H7 a1.t.args) (.sl H7 a1.ts) (.sl D9 a1.l) a1.at_),.agg (c0 b2.op b2.s b2.n b2.t.kind b2.t.name b2.t.n (.sl H7 b2.t.args) (.sl H7 b2.ts) (.sl D9 b2.l) b2.at_)] [] (a5D)
 a1U:∀{a1 b2},OkF env (Φ.a1U a1 b2) 33 [.sl D9 a1,.sl D9 b2,.func (.func 13) [] []] [] (a5D)
attribute [instance] M0.Ok.a6y M0.Ok.a1U
theorem b81 (n:Nat){Φ:M0} [hΦ:M0.Ok Φ] {a1 b2}:OkF env (a8n n Φ a1 b2) 13 [.agg (c0 a1.op a1.s a1.n a1.t.kind a1.t.name a1.t.n (.sl H7 a1.t.args) (.sl H7 a1.ts) (.sl D9 a1.l) a1.at_),.agg (c0 b2.op b2.s b2.n b2.t.kind b2.t.name b2.t.n (.sl H7 b2.t.args) (.sl H7 b2.ts) (.sl D9 b2.l) b2.at_)] [] (a5D):=mkF Tryz.func13 rfl (by
 obtain⟨a1_0,a1_1,a1_2,⟨a1_3,a1_4,a1_5,a1_6⟩,a1_7,a1_8,a1_9⟩:=a1;obtain⟨b2_0,b2_1,b2_2,⟨b2_3,b2_4,b2_5,b2_6⟩,b2_7,b2_8,b2_9⟩:=b2;intro kr r h;unfold a8n at h;exact blk)
theorem b1q (n:Nat){Φ:M0} [hΦ:M0.Ok Φ] {a1 b2}:OkF env (a3z n Φ a1 b2) 33 [.sl D9 a1,.sl D9 b2,.func (.func 13) [] []] [] (a5D):=mkF Tryz.func33 rfl (by
 intro kr r h;unfold a3z at h;let jn1:Jn 10 Unit:=jJ fun f H z=>([],[])
 let jl1:Jn 4 Int:=jJ fun f H z=>([(0,.sl D9 a1),(1,.sl D9 b2),(2,.func (.func 13) [] []),(14,.i (List.length a1:Int)),(15,.i z)],[])
 exact blk)
theorem M0.ok:∀n,M0.Ok (M0.fs n)
 | 0=>⟨okN,okN⟩
 | n+1=>have:=M0.ok n;⟨b81 n,b1q n⟩
instance {n:Nat}:M0.Ok (M0.fs n):=M0.ok n
instance parse_Valid_I {n n1}:OkF env (a9i n n1) 6 [.agg (cN n1)] [] (a5D):=mkF Tryz.func6 rfl (by
 obtain⟨a7K,a7X,a7Y,⟨a7Z,a8a,a8b,a8c⟩,a8d,a3Q,a8e⟩:=n1;intro kr r h;unfold a9i at h;let jn1:Jn 30004 Bool:=jJ fun f H z=>([(1,.ptr 0 0),(22,.bool z)],[oH H 128])
 exact blk)
class Q5.Ok (Φ:Q5):Prop where
 a5o:∀{n1},OkF env (Φ.a5o n1) 14 [.agg (cN n1)] [] (b60)
attribute [instance] Q5.Ok.a5o
theorem b9g (n:Nat){Φ:Q5} [hΦ:Q5.Ok Φ] {n1}:OkF env (a6B n Φ n1) 14 [.agg (cN n1)] [] (b60):=mkF Tryz.func14 rfl (by
 obtain⟨a7K,a7X,a7Y,⟨a7Z,a8a,a8b,a8c⟩,a8d,a3Q,a8e⟩:=n1;intro kr r h;unfold a6B at h;let jn1:Jn 9 (Int×Int):=jJ fun f H z=>([(4,.i z.1),(5,.i z.2)],[])
 let jl1:Jn 3 (Int×Int×Int):=jJ fun f H z=>([(1,.ptr 0 0),(4,.i z.1),(5,.i z.2.1),(6,.i z.2.2)],[oH H 128])
 exact blk)
theorem Q5.ok:∀n,Q5.Ok (Q5.fs n)
 | 0=>⟨okN⟩
 | n+1=>have:=Q5.ok n;⟨b9g n⟩
instance {n:Nat}:Q5.Ok (Q5.fs n):=Q5.ok n
instance c2M {l1 A9 at3 o9}:OkF env (F6 l1 A9 at3 o9) 36 [.ptr 0 0] (hR u7 l1 A9 at3 o9) (encF26 l1 A9 at3 o9):=mkF Tryz.func36 rfl (by
 intro kr r h;unfold F6 at h;exact blk)
instance c4Y {a6P b54 l3 end4 at5 b0V}:OkF env (G9 a6P b54 l3 end4 at5 b0V) 121 [.ptr 0 0,.i a6P,.str b54] (hR u7 l3 end4 at5 b0V) (encF27 l3 end4 at5 b0V):=mkF Tryz.func121 rfl (by
 intro kr r h;unfold G9 at h;exact blk)
instance c5a {a6P b54 l3 end4 at5 b0V}:OkF env (a4t a6P b54 l3 end4 at5 b0V) 117 [.ptr 0 0,.i a6P,.str b54] (hR u7 l3 end4 at5 b0V) (c5w l3 end4 b0V):=mkF Tryz.func117 rfl (by
 intro kr r h;unfold a4t at h;exact blk)
instance c6o {s1 l2 E5 at4 u6}:OkF env (D8 s1 l2 E5 at4 u6) 68 [.ptr 0 0,.str s1] (hR u7 l2 E5 at4 u6) (c5w l2 E5 u6):=mkF Tryz.func68 rfl (by
 intro kr r h;unfold D8 at h;exact blk)
instance c2L {a6P l2 E5 at4 u6}:OkF env (a0A a6P l2 E5 at4 u6) 152 [.ptr 0 0,.i a6P] (hR u7 l2 E5 at4 u6) (encF27 l2 E5 at4 u6):=mkF Tryz.func152 rfl (by
 intro kr r h;unfold a0A at h;exact blk)
instance c5b {a6P l2 E5 at4 u6}:OkF env (F5 a6P l2 E5 at4 u6) 118 [.ptr 0 0,.i a6P] (hR u7 l2 E5 at4 u6) (encF29 l2 E5 u6):=mkF Tryz.func118 rfl (by
 intro kr r h;unfold F5 at h;exact blk)
instance c4Z {s1 l2 E5 at4 u6}:OkF env (p9 s1 l2 E5 at4 u6) 120 [.ptr 0 0,.str s1] (hR u7 l2 E5 at4 u6) (c5w l2 E5 u6):=mkF Tryz.func120 rfl (by
 intro kr r h;unfold p9 at h;exact blk)
instance c2J {n l1 A9 at3 o9}:OkF env (a3k n l1 A9 at3 o9) 125 [.ptr 0 0] (hR u7 l1 A9 at3 o9) (encF30 l1 A9 o9):=mkF Tryz.func125 rfl (by
 intro kr r h;unfold a3k at h;let jn1:Jn 14 (List Nod×Int):=jJ fun f H z=>([(4,.st 1 D9 z.1)],[r3 u7 l1 A9 z.2 o9,tpl 10 z.1])
 let jl1:Jn 5 (List Nod×Bool×Int):=jJ fun f H z=>([p0,(4,.st 1 D9 z.1),(5,.bool z.2.1)],[r3 u7 l1 A9 z.2.2 o9,tpl 10 z.1])
 exact blk)
instance c0N {n l1 l2 E5 at4 u6}:OkF env (a1b n l1 l2 E5 at4 u6) 119 [.ptr 0 0,.st 1 D9 l1] [(0,.row [.sl u7 l2,.i E5,.i at4,.i u6]),(1,.tip (tpe 10 (List.length l1)) (List.length l1))] (c5x l2 E5 u6):=mkF Tryz.func119 rfl (by
 intro kr r h;unfold a1b at h;let jn1:Jn 17 (List Nod×Int):=jJ fun f H z=>([p0,(1,.st 1 D9 z.1)],[r3 u7 l2 E5 z.2 u6,tpl 10 z.1])
 let jl1:Jn 4 (List Nod×Bool×Int):=jJ fun f H z=>([p0,(1,.st 1 D9 z.1),(6,.bool z.2.1)],[r3 u7 l2 E5 z.2.2 u6,tpl 10 z.1])
 exact blk)
end Go.Proofs.YtimgnjbjbdgmaaaGreatDoor
