/- What the functions under ParseSpeaks compute, step by step, as functions in Lean: texts that were built one by one, joined. -/
import Derived.Test.YtmippldlhnajkaaGreatDoorParseSpeaksJ17
set_option maxRecDepth 100000
set_option maxHeartbeats 20000000
set_option linter.unusedSimpArgs false
set_option linter.unusedVariables false
set_option linter.unusedSectionVars false
namespace Go.Proofs.YtmippldlhnajkaaGreatDoor
open Go Go.Vm
attribute [local irreducible] Go.Vm.Ev Go.Vm.Os Go.Vm.OsP Go.Vm.Lp Go.Vm.A9 Go.Vm.H9 Go.Vm.I6 Go.Vm.E
abbrev b7U (a1N:Str)(p:Option (Unit)):Prop:=OkF env p 12 [.str a1N] [] (b5e a1N)
instance law02_long_I {a1N:Str}:b7U a1N (a6J a1N):=⟨fun{r} h=>by
 unfold a6J at h
 refine A8 rfl Tryz.func12 rfl rfl ?_
 exact blk⟩
abbrev a6l (n1:Nod)(p:Option (Int×Int)):Prop:=OkF env p 21 [.agg (c0 n1.op n1.s n1.n n1.t.kind n1.t.name n1.t.n (.sl C9 n1.t.args) (.sl C9 n1.ts) (.sl F5 n1.l) n1.at_)] [] (b0r n1)
class M8.Ok (Φ:M8):Prop where
 a0X:∀{n1:Nod},a6l n1 (Φ.a0X n1)
instance {Φ:M8} [h:M8.Ok Φ] {n1:Nod}:a6l n1 (Φ.a0X n1):=h.a0X
theorem b5J (n:Nat){Φ:M8} [hΦ:M8.Ok Φ] {n1:Nod}:a6l n1 (a4Y n Φ n1):=⟨fun{r} h=>by
 unfold a4Y at h
 obtain⟨n1_0,n1_1,n1_2,⟨n1_3,n1_4,n1_5,n1_6⟩,n1_7,n1_8,n1_9⟩:=n1
 refine A8 rfl Tryz.func21 rfl rfl ?_
 let kr:=fun r:Int×Int=>a1Q env 21 0 Tryz.f21.results.toList (b0r (Nod.mk n1_0 n1_1 n1_2 (Typ.mk n1_3 n1_4 n1_5 n1_6) n1_7 n1_8 n1_9) r)
 let jn1:Jn 9 (Int×Int):=⟨fun fr H z=>([(4,.i z.1),(5,.i z.2)],[])⟩
 let jl1:Jn 3 (Int×Int×Int):=⟨fun fr H z=>([(1,.ptr 0 0),(4,.i z.1),(5,.i z.2.1),(6,.i z.2.2)],[(0,oH H 128)])⟩
 exact blk⟩
theorem M8.ok:∀n,M8.Ok (M8.fs n)
 | 0=>⟨⟨fun h=>by cases h⟩⟩
 | n+1=>have:=M8.ok n;⟨b5J n⟩
instance ref02_Size_I {n:Nat}{n1:Nod}:a6l n1 (a0X n n1):=(M8.ok n).a0X
abbrev b5K (p:Option (Unit)):Prop:=OkF env p 139 [] [] (b3o)
instance ref02_levels_I:b5K (a6m):=⟨fun{r} h=>by
 unfold a6m at h
 refine A8 rfl Tryz.func139 rfl rfl ?_
 exact blk⟩
abbrev b1g (a04:Int)(a5S:Str)(l3:List Tok)(a9p at5 a3k:Int)(p:Option (Bool)):Prop:=OkF env p 141 [.ptr 0 0,.i a04,.str a5S] (hR F7 l3 a9p at5 a3k) (a9J a04 a5S l3 a9p at5 a3k)
instance c0A {a04:Int}{a5S:Str}{l3:List Tok}{a9p at5 a3k:Int}:b1g a04 a5S l3 a9p at5 a3k (D6 a04 a5S l3 a9p at5 a3k):=⟨fun{r} h=>by
 unfold D6 at h
 refine A8 rfl Tryz.func141 rfl rfl ?_
 exact blk⟩
abbrev a9I (a04:Int)(l2:List Tok)(F6 at4 z8:Int)(p:Option (Bool)):Prop:=OkF env p 152 [.ptr 0 0,.i a04] (hR F7 l2 F6 at4 z8) (a8p a04 l2 F6 at4 z8)
instance b8F {a04:Int}{l2:List Tok}{F6 at4 z8:Int}:a9I a04 l2 F6 at4 z8 (L8 a04 l2 F6 at4 z8):=⟨fun{r} h=>by
 unfold L8 at h
 refine A8 rfl Tryz.func152 rfl rfl ?_
 exact blk⟩
abbrev a9K (l1:List Tok)(o6 at3 j4:Int)(p:Option (Int)):Prop:=OkF env p 40 [.ptr 0 0] (hR F7 l1 o6 at3 j4) (a8q l1 o6 at3 j4)
instance b8G {l1:List Tok}{o6 at3 j4:Int}:a9K l1 o6 at3 j4 (F4 l1 o6 at3 j4):=⟨fun{r} h=>by
 unfold F4 at h
 refine A8 rfl Tryz.func40 rfl rfl ?_
 exact blk⟩
abbrev b1j (a04:Int)(l2:List Tok)(F6 at4 z8:Int)(p:Option (Str×Bool×Int)):Prop:=OkF env p 90 [.ptr 0 0,.i a04] (hR F7 l2 F6 at4 z8) (a9P a04 l2 F6 at4 z8)
instance c0E {a04:Int}{l2:List Tok}{F6 at4 z8:Int}:b1j a04 l2 F6 at4 z8 (D7 a04 l2 F6 at4 z8):=⟨fun{r} h=>by
 unfold D7 at h
 refine A8 rfl Tryz.func90 rfl rfl ?_
 exact blk⟩
abbrev b1i (a04:Int)(a5S:Str)(l3:List Tok)(a9p at5 a3k:Int)(p:Option (Bool×Int)):Prop:=OkF env p 151 [.ptr 0 0,.i a04,.str a5S] (hR F7 l3 a9p at5 a3k) (a9O a04 a5S l3 a9p at5 a3k)
instance c0D {a04:Int}{a5S:Str}{l3:List Tok}{a9p at5 a3k:Int}:b1i a04 a5S l3 a9p at5 a3k (Y9 a04 a5S l3 a9p at5 a3k):=⟨fun{r} h=>by
 unfold Y9 at h
 refine A8 rfl Tryz.func151 rfl rfl ?_
 exact blk⟩
abbrev b1h (s1:Str)(l2:List Tok)(F6 at4 z8:Int)(p:Option (Bool×Int)):Prop:=OkF env p 91 [.ptr 0 0,.str s1] (hR F7 l2 F6 at4 z8) (a9N s1 l2 F6 at4 z8)
instance c0C {s1:Str}{l2:List Tok}{F6 at4 z8:Int}:b1h s1 l2 F6 at4 z8 (o8 s1 l2 F6 at4 z8):=⟨fun{r} h=>by
 unfold o8 at h
 refine A8 rfl Tryz.func91 rfl rfl ?_
 exact blk⟩
abbrev b1f (l1:List Tok)(o6 at3 j4:Int)(p:Option (Nod×Bool×Int)):Prop:=OkF env p 220 [.ptr 0 0] (hR F7 l1 o6 at3 j4) (a5t l1 o6 at3 j4)
instance c0z {n:Nat}{l1:List Tok}{o6 at3 j4:Int}:b1f l1 o6 at3 j4 (a2s n l1 o6 at3 j4):=⟨fun{r} h=>by
 unfold a2s at h
 refine A8 rfl Tryz.func220 rfl rfl ?_
 let kr:=fun r:Nod×Bool×Int=>a1Q env 220 1 Tryz.f220.results.toList (a5t l1 o6 at3 j4 r)
 let jn1:Jn 9 (Bool×Int×Int×Str×List Nod):=⟨fun fr H z=>([(2,.ptr 1 0),(6,.bool z.1),(7,.ptr 2 0)],[(0,.row [.sl F7 l1,.i o6,.i z.2.1,.i j4]),(1,.row [.i 0,.str [],.i 0,.i 0,.str [],.i 0,.slice (.tag 3) 0 [],.slice (.tag 4) 0 [],.slice (.tag 5) 0 [],.i 0]),(2,.row [.i z.2.2.1,.str z.2.2.2.1,.i 0,.i 0,.str [],.i 0,.slice (.tag 6) 0 [],.slice (.tag 7) 0 [],.st 8 F5 z.2.2.2.2,(lk 11 fr)]),(3,.tip 0 0),(4,.tip 0 0),(5,.tip 0 0),(6,.tip 0 0),(7,.tip 0 0),(8,.tip (tpe 10 (List.length z.2.2.2.2)) (List.length z.2.2.2.2))])⟩
 let jl1:Jn 4 (Bool×Int×Int×Str×List Nod):=⟨fun fr H z=>([(0,.ptr 0 0),(2,.ptr 1 0),(4,(lk 11 fr)),(6,.bool z.1),(7,.ptr 2 0)],[(0,.row [.sl F7 l1,.i o6,.i z.2.1,.i j4]),(1,.row [.i 0,.str [],.i 0,.i 0,.str [],.i 0,.slice (.tag 3) 0 [],.slice (.tag 4) 0 [],.slice (.tag 5) 0 [],.i 0]),(2,.row [.i z.2.2.1,.str z.2.2.2.1,.i 0,.i 0,.str [],.i 0,.slice (.tag 6) 0 [],.slice (.tag 7) 0 [],.st 8 F5 z.2.2.2.2,(lk 11 fr)]),(3,.tip 0 0),(4,.tip 0 0),(5,.tip 0 0),(6,.tip 0 0),(7,.tip 0 0),(8,.tip (tpe 10 (List.length z.2.2.2.2)) (List.length z.2.2.2.2))])⟩
 let jn2:Jn 90024 (Bool×Int):=⟨fun fr H z=>([(0,.ptr 0 0),(2,.ptr 1 0),(4,(lk 4 fr)),(6,(lk 6 fr)),(7,.ptr 2 0),(24,.bool z.1)],[(0,.row [.sl F7 l1,.i o6,.i z.2,.i j4]),(1,oH H 1),(2,oH H 2),(3,.tip 0 0),(4,.tip 0 0),(5,.tip 0 0),(6,.tip 0 0),(7,.tip 0 0),(8,oH H 8)])⟩
 exact blk⟩
abbrev b5M (s1:Str)(p:Option (Int)):Prop:=OkF env p 216 [.str s1] [] (a8n s1)
instance ref02_number_I {n:Nat}{s1:Str}:b5M s1 (a0j n s1):=⟨fun{r} h=>by
 unfold a0j at h
 refine A8 rfl Tryz.func216 rfl rfl ?_
 let kr:=fun r:Int=>a1Q env 216 0 Tryz.f216.results.toList (a8n s1 r)
 let jn1:Jn 7 (Int):=⟨fun fr H z=>([(3,.i z)],[])⟩
 let jl1:Jn 3 (Int×Int):=⟨fun fr H z=>([(0,.str s1),(3,.i z.1),(4,.i z.2)],[])⟩
 exact blk⟩
abbrev b1Q (s1:Str)(l2:List Tok)(F6 at4 z8:Int)(p:Option (Bool×Int)):Prop:=OkF env p 89 [.ptr 0 0,.str s1] (hR F7 l2 F6 at4 z8) (b0u s1 l2 F6 at4 z8)
instance c1O {s1:Str}{l2:List Tok}{F6 at4 z8:Int}:b1Q s1 l2 F6 at4 z8 (D8 s1 l2 F6 at4 z8):=⟨fun{r} h=>by
 unfold D8 at h
 refine A8 rfl Tryz.func89 rfl rfl ?_
 exact blk⟩
abbrev a3d (l1:List Tok)(o6 at3 j4:Int)(p:Option (Typ×Bool×Int)):Prop:=OkF env p 43 [.ptr 0 0] (hR F7 l1 o6 at3 j4) (a5P l1 o6 at3 j4)
abbrev a2w (l1:List Tok)(o6 at3 j4:Int)(p:Option (List Typ×Bool×Int)):Prop:=OkF env p 92 [.ptr 0 0] (hR F7 l1 o6 at3 j4) (a5e l1 o6 at3 j4)
abbrev a2J (l1:List Tok)(o6 at3 j4:Int)(p:Option (Typ×Bool×Int)):Prop:=OkF env p 93 [.ptr 0 0] (hR F7 l1 o6 at3 j4) (a5s l1 o6 at3 j4)
class p8.Ok (Φ:p8):Prop where
 K5:∀{l1:List Tok} {o6 at3 j4:Int},a3d l1 o6 at3 j4 (Φ.K5 l1 o6 at3 j4)
 P8:∀{l1:List Tok} {o6 at3 j4:Int},a2w l1 o6 at3 j4 (Φ.P8 l1 o6 at3 j4)
 P7:∀{l1:List Tok} {o6 at3 j4:Int},a2J l1 o6 at3 j4 (Φ.P7 l1 o6 at3 j4)
instance {Φ:p8} [h:p8.Ok Φ] {l1:List Tok}{o6 at3 j4:Int}:a3d l1 o6 at3 j4 (Φ.K5 l1 o6 at3 j4):=h.K5
instance {Φ:p8} [h:p8.Ok Φ] {l1:List Tok}{o6 at3 j4:Int}:a2w l1 o6 at3 j4 (Φ.P8 l1 o6 at3 j4):=h.P8
instance {Φ:p8} [h:p8.Ok Φ] {l1:List Tok}{o6 at3 j4:Int}:a2J l1 o6 at3 j4 (Φ.P7 l1 o6 at3 j4):=h.P7
theorem b0v (n:Nat){Φ:p8} [hΦ:p8.Ok Φ] {l1:List Tok}{o6 at3 j4:Int}:a3d l1 o6 at3 j4 (a1X n Φ l1 o6 at3 j4):=⟨fun{r} h=>by
 unfold a1X at h
 refine A8 rfl Tryz.func43 rfl rfl ?_
 let kr:=fun r:Typ×Bool×Int=>a1Q env 43 1 Tryz.f43.results.toList (a5P l1 o6 at3 j4 r)
 let jn1:Jn 12 (Int×List Typ):=⟨fun fr H z=>([(0,.ptr 0 0),(2,.ptr 1 0),(6,.ptr 2 0)],[(0,.row [.sl F7 l1,.i o6,.i z.1,.i j4]),(1,.row [.i 0,.str [],.i 0,.slice (.tag 3) 0 []]),(2,.row [.i 10,.str [],.i 0,.st 4 C9 z.2]),(3,.tip 0 0),(4,.tip (tpe 4 (List.length z.2)) (List.length z.2))])⟩
 let jn2:Jn 30010 (Bool×Int):=⟨fun fr H z=>([(0,.ptr 0 0),(2,.ptr 1 0),(6,.ptr 2 0),(7,ow (.tag 3) (lk 35 fr)),(43,.bool z.1)],[(0,.row [.sl F7 l1,.i o6,.i z.2,.i j4]),(1,.row [.i 0,.str [],.i 0,.slice (.tag 4) 0 []]),(2,.row [.i 10,.str [],.i 0,.slice (.tag 5) 0 []]),(3,oH H 2240),(4,.tip 0 0),(5,.tip 0 0)])⟩
 let jn3:Jn 23 (Bool×Int×Typ):=⟨fun fr H z=>([(2,.ptr 1 0),(12,.ptr 2 0),(13,.bool z.1)],[(0,.row [.sl F7 l1,.i o6,.i z.2.1,.i j4]),(1,.row [.i 0,.str [],.i 0,.slice (.tag 3) 0 []]),(2,.row [.i z.2.2.kind,.str z.2.2.name,.i z.2.2.n,.sl C9 z.2.2.args]),(3,.tip 0 0)])⟩
 let jl1:Jn 18 (Bool×Int×Typ):=⟨fun fr H z=>([(0,.ptr 0 0),(2,.ptr 1 0),(12,.ptr 2 0),(13,.bool z.1)],[(0,.row [.sl F7 l1,.i o6,.i z.2.1,.i j4]),(1,.row [.i 0,.str [],.i 0,.slice (.tag 3) 0 []]),(2,.row [.i z.2.2.kind,.str z.2.2.name,.i z.2.2.n,.sl C9 z.2.2.args]),(3,.tip 0 0)])⟩
 let jn4:Jn 90074 (Bool×Int):=⟨fun fr H z=>([(0,.ptr 0 0),(2,.ptr 1 0),(12,.ptr 2 0),(13,(lk 13 fr)),(74,.bool z.1)],[(0,.row [.sl F7 l1,.i o6,.i z.2,.i j4]),(1,oH H 1),(2,oH H 2),(3,.tip 0 0)])⟩
 exact blk⟩
theorem a8Y (n:Nat){Φ:p8} [hΦ:p8.Ok Φ] {l1:List Tok}{o6 at3 j4:Int}:a2w l1 o6 at3 j4 (a1d n Φ l1 o6 at3 j4):=⟨fun{r} h=>by
 unfold a1d at h
 refine A8 rfl Tryz.func92 rfl rfl ?_
 let kr:=fun r:List Typ×Bool×Int=>a1Q env 92 1 Tryz.f92.results.toList (a5e l1 o6 at3 j4 r)
 let jn1:Jn 10 (List Typ×Int):=⟨fun fr H z=>([(4,.st 1 C9 z.1)],[(0,.row [.sl F7 l1,.i o6,.i z.2,.i j4]),(1,.tip (tpe 4 (List.length z.1)) (List.length z.1))])⟩
 let jl1:Jn 3 (List Typ×Bool×Int):=⟨fun fr H z=>([(0,.ptr 0 0),(4,.st 1 C9 z.1),(5,.bool z.2.1)],[(0,.row [.sl F7 l1,.i o6,.i z.2.2,.i j4]),(1,.tip (tpe 4 (List.length z.1)) (List.length z.1))])⟩
 exact blk⟩
theorem a9F (n:Nat){Φ:p8} [hΦ:p8.Ok Φ] {l1:List Tok}{o6 at3 j4:Int}:a2J l1 o6 at3 j4 (a1y n Φ l1 o6 at3 j4):=⟨fun{r} h=>by
 unfold a1y at h
 refine A8 rfl Tryz.func93 rfl rfl ?_
 let kr:=fun r:Typ×Bool×Int=>a1Q env 93 1 Tryz.f93.results.toList (a5s l1 o6 at3 j4 r)
 let jn1:Jn 11 (List Typ×Int):=⟨fun fr H z=>([(2,.ptr 1 0),(4,(lk 13 fr)),(6,.st 2 C9 z.1)],[(0,.row [.sl F7 l1,.i o6,.i z.2,.i j4]),(1,.row [.i 0,.str [],.i 0,.slice (.tag 3) 0 []]),(2,.tip (tpe 4 (List.length z.1)) (List.length z.1)),(3,.tip 0 0)])⟩
 let jn2:Jn 30009 (Bool×Int):=⟨fun fr H z=>([(2,.ptr 1 0),(4,(lk 13 fr)),(7,ow (.tag 2) (lk 23 fr)),(31,.bool z.1)],[(0,.row [.sl F7 l1,.i o6,.i z.2,.i j4]),(1,.row [.i 0,.str [],.i 0,.slice (.tag 3) 0 []]),(2,oH H 1472),(3,.tip 0 0)])⟩
 let jn3:Jn 24 (Int):=⟨fun fr H z=>([(2,.ptr 1 0),(4,(lk 4 fr)),(6,ow (.tag 2) (lk 6 fr)),(9,.i z)],[(0,oH H 0),(1,oH H 1),(2,oH H 2),(3,.tip 0 0)])⟩
 let jn4:Jn 30013 (Bool):=⟨fun fr H z=>([(2,.ptr 1 0),(4,(lk 4 fr)),(6,ow (.tag 2) (lk 6 fr)),(9,.i 6),(34,.bool z)],[(0,oH H 0),(1,oH H 1),(2,oH H 2),(3,.tip 0 0)])⟩
 let jn5:Jn 30015 (Bool):=⟨fun fr H z=>([(2,.ptr 1 0),(4,(lk 4 fr)),(6,ow (.tag 2) (lk 6 fr)),(9,.i 6),(42,.bool z)],[(0,oH H 0),(1,oH H 1),(2,oH H 2),(3,.tip 0 0)])⟩
 let jn6:Jn 30017 (Bool):=⟨fun fr H z=>([(2,.ptr 1 0),(4,(lk 4 fr)),(6,ow (.tag 2) (lk 6 fr)),(9,.i 6),(50,.bool z)],[(0,oH H 0),(1,oH H 1),(2,oH H 2),(3,.tip 0 0)])⟩
 let jn7:Jn 30019 (Bool):=⟨fun fr H z=>([(2,.ptr 1 0),(4,(lk 4 fr)),(6,ow (.tag 2) (lk 6 fr)),(9,.i 6),(58,.bool z)],[(0,oH H 0),(1,oH H 1),(2,oH H 2),(3,.tip 0 0)])⟩
 let jn8:Jn 30021 (Bool):=⟨fun fr H z=>([(2,.ptr 1 0),(4,(lk 4 fr)),(6,ow (.tag 2) (lk 6 fr)),(9,.i 6),(66,.bool z)],[(0,oH H 0),(1,oH H 1),(2,oH H 2),(3,.tip 0 0)])⟩
 let jn9:Jn 30023 (Bool):=⟨fun fr H z=>([(2,.ptr 1 0),(4,(lk 4 fr)),(6,ow (.tag 2) (lk 6 fr)),(9,.i 6),(74,.bool z)],[(0,oH H 0),(1,oH H 1),(2,oH H 2),(3,.tip 0 0)])⟩
 let jn10:Jn 26 (Str):=⟨fun fr H z=>([(2,.ptr 1 0),(4,.str z),(6,ow (.tag 2) (lk 6 fr)),(9,(lk 9 fr))],[(0,oH H 0),(1,oH H 1),(2,oH H 2),(3,.tip 0 0)])⟩
 exact blk⟩
theorem p8.ok:∀n,p8.Ok (p8.fs n)
 | 0=>⟨⟨fun h=>by cases h⟩,⟨fun h=>by cases h⟩,⟨fun h=>by cases h⟩⟩
 | n+1=>have:=p8.ok n;⟨b0v n,a8Y n,a9F n⟩
instance c1P {n:Nat}{l1:List Tok}{o6 at3 j4:Int}:a3d l1 o6 at3 j4 (K5 n l1 o6 at3 j4):=(p8.ok n).K5
instance b92 {n:Nat}{l1:List Tok}{o6 at3 j4:Int}:a2w l1 o6 at3 j4 (P8 n l1 o6 at3 j4):=(p8.ok n).P8
instance c0x {n:Nat}{l1:List Tok}{o6 at3 j4:Int}:a2J l1 o6 at3 j4 (P7 n l1 o6 at3 j4):=(p8.ok n).P7
abbrev a9L (l1:List Nod)(l2:List Tok)(F6 at4 z8:Int)(p:Option (List Nod×Bool×Int)):Prop:=OkF env p 157 [.ptr 0 0,.st 1 F5 l1] [(0,.row [.sl F7 l2,.i F6,.i at4,.i z8]),(1,.tip (tpe 10 (List.length l1)) (List.length l1))] (a4E l1 l2 F6 at4 z8)
instance b8H {n:Nat}{l1:List Nod}{l2:List Tok}{F6 at4 z8:Int}:a9L l1 l2 F6 at4 z8 (a1A n l1 l2 F6 at4 z8):=⟨fun{r} h=>by
 unfold a1A at h
 refine A8 rfl Tryz.func157 rfl rfl ?_
 let kr:=fun r:List Nod×Bool×Int=>a1Q env 157 2 Tryz.f157.results.toList (a4E l1 l2 F6 at4 z8 r)
 let jn1:Jn 21 (List Nod×Int):=⟨fun fr H z=>([(0,.ptr 0 0),(1,.st 1 F5 z.1)],[(0,.row [.sl F7 l2,.i F6,.i z.2,.i z8]),(1,.tip (tpe 10 (List.length z.1)) (List.length z.1))])⟩
 let jl1:Jn 4 (List Nod×Bool×Int):=⟨fun fr H z=>([(0,.ptr 0 0),(1,.st 1 F5 z.1),(6,.bool z.2.1)],[(0,.row [.sl F7 l2,.i F6,.i z.2.2,.i z8]),(1,.tip (tpe 10 (List.length z.1)) (List.length z.1))])⟩
 let jn2:Jn 11 (Int×Int):=⟨fun fr H z=>([(0,.ptr 0 0),(1,ow (.tag 1) (lk 1 fr)),(7,.ptr 2 0)],[(0,.row [.sl F7 l2,.i F6,.i z.1,.i z8]),(1,oH H 1),(2,.row [.i 10,.str [],.i z.2,.i 0,.str [],.i 0,.slice (.tag 3) 0 [],.slice (.tag 4) 0 [],.slice (.tag 5) 0 [],(lk 18 fr)]),(3,.tip 0 0),(4,.tip 0 0),(5,.tip 0 0)])⟩
 let jn3:Jn 30013 (Bool×Int):=⟨fun fr H z=>([(0,.ptr 0 0),(1,ow (.tag 1) (lk 1 fr)),(7,.ptr 2 0),(8,(lk 29 fr)),(37,.bool z.1)],[(0,.row [.sl F7 l2,.i F6,.i z.2,.i z8]),(1,oH H 1),(2,oH H 2),(3,.tip 0 0),(4,.tip 0 0),(5,.tip 0 0)])⟩
 exact blk⟩
abbrev a1L (l1:List Tok)(o6 at3 j4:Int)(p:Option (Nod×Bool×Int)):Prop:=OkF env p 250 [.ptr 0 0] (hR F7 l1 o6 at3 j4) (a4f l1 o6 at3 j4)
class E5.Ok (Φ:E5):Prop where
 K3:∀{l1:List Tok} {o6 at3 j4:Int},a1L l1 o6 at3 j4 (Φ.K3 l1 o6 at3 j4)
instance {Φ:E5} [h:E5.Ok Φ] {l1:List Tok}{o6 at3 j4:Int}:a1L l1 o6 at3 j4 (Φ.K3 l1 o6 at3 j4):=h.K3
theorem a7O (n:Nat){Φ:E5} [hΦ:E5.Ok Φ] {l1:List Tok}{o6 at3 j4:Int}:a1L l1 o6 at3 j4 (a0D n Φ l1 o6 at3 j4):=⟨fun{r} h=>by
 unfold a0D at h
 refine A8 rfl Tryz.func250 rfl rfl ?_
 let kr:=fun r:Nod×Bool×Int=>a1Q env 250 1 Tryz.f250.results.toList (a4f l1 o6 at3 j4 r)
 let jn1:Jn 44 (List Nod×Int):=⟨fun fr H z=>([(0,.ptr 0 0),(2,.ptr 1 0),(4,.ptr 2 0),(15,.st 3 F5 z.1)],[(0,.row [.sl F7 l1,.i o6,.i z.2,.i j4]),(1,.row [.i 0,.str [],.i 0,.i 0,.str [],.i 0,.slice (.tag 4) 0 [],.slice (.tag 5) 0 [],.slice (.tag 6) 0 [],.i 0]),(2,.row [.i 45,(lk 88 fr),.i 0,.i 0,.str [],.i 0,.slice (.tag 7) 0 [],.slice (.tag 8) 0 [],.slice (.tag 9) 0 [],(lk 21 fr)]),(3,.tip (tpe 10 (List.length z.1)) (List.length z.1)),(4,.tip 0 0),(5,.tip 0 0),(6,.tip 0 0),(7,.tip 0 0),(8,.tip 0 0),(9,.tip 0 0)])⟩
 let jl1:Jn 37 (List Nod×Bool×Int):=⟨fun fr H z=>([(0,.ptr 0 0),(2,.ptr 1 0),(4,.ptr 2 0),(15,.st 3 F5 z.1),(16,.bool z.2.1)],[(0,.row [.sl F7 l1,.i o6,.i z.2.2,.i j4]),(1,.row [.i 0,.str [],.i 0,.i 0,.str [],.i 0,.slice (.tag 4) 0 [],.slice (.tag 5) 0 [],.slice (.tag 6) 0 [],.i 0]),(2,.row [.i 45,(lk 88 fr),.i 0,.i 0,.str [],.i 0,.slice (.tag 7) 0 [],.slice (.tag 8) 0 [],.slice (.tag 9) 0 [],(lk 21 fr)]),(3,.tip (tpe 10 (List.length z.1)) (List.length z.1)),(4,.tip 0 0),(5,.tip 0 0),(6,.tip 0 0),(7,.tip 0 0),(8,.tip 0 0),(9,.tip 0 0)])⟩
 exact blk⟩
theorem E5.ok:∀n,E5.Ok (E5.fs n)
 | 0=>⟨⟨fun h=>by cases h⟩⟩
 | n+1=>have:=E5.ok n;⟨a7O n⟩
instance b8l {n:Nat}{l1:List Tok}{o6 at3 j4:Int}:a1L l1 o6 at3 j4 (K3 n l1 o6 at3 j4):=(E5.ok n).K3
abbrev b6i (n1:Nod)(p:Option (Bool)):Prop:=OkF env p 251 [.agg (c0 n1.op n1.s n1.n n1.t.kind n1.t.name n1.t.n (.sl C9 n1.t.args) (.sl C9 n1.ts) (.sl F5 n1.l) n1.at_)] [] (a9k n1)
instance ref02_Place_I {n:Nat}{n1:Nod}:b6i n1 (a5N n n1):=⟨fun{r} h=>by
 unfold a5N at h
 obtain⟨n1_0,n1_1,n1_2,⟨n1_3,n1_4,n1_5,n1_6⟩,n1_7,n1_8,n1_9⟩:=n1
 refine A8 rfl Tryz.func251 rfl rfl ?_
 let kr:=fun r:Bool=>a1Q env 251 0 Tryz.f251.results.toList (a9k (Nod.mk n1_0 n1_1 n1_2 (Typ.mk n1_3 n1_4 n1_5 n1_6) n1_7 n1_8 n1_9) r)
 let jn1:Jn 4 (Nod):=⟨fun fr H z=>([(1,.ptr 0 0)],[(0,.row (c0 z.op z.s z.n z.t.kind z.t.name z.t.n (.sl C9 z.t.args) (.sl C9 z.ts) (.sl F5 z.l) z.at_))])⟩
 let jl1:Jn 1 (Nod):=⟨fun fr H z=>([(1,.ptr 0 0)],[(0,.row (c0 z.op z.s z.n z.t.kind z.t.name z.t.n (.sl C9 z.t.args) (.sl C9 z.ts) (.sl F5 z.l) z.at_))])⟩
 let jn2:Jn 90011 (Bool):=⟨fun fr H z=>([(1,.ptr 0 0),(11,.bool z)],[(0,oH H 0)])⟩
 exact blk⟩
end Go.Proofs.YtmippldlhnajkaaGreatDoor
