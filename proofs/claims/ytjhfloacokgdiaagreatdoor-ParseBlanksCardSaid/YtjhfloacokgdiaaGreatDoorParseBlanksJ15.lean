/- Texts of ParseBlanks, joined. -/
import Derived.Test.YtjhfloacokgdiaaGreatDoorParseBlanksJ14
set_option maxRecDepth 100000
set_option maxHeartbeats 20000000
set_option linter.unusedSimpArgs false
set_option linter.unusedVariables false
set_option linter.unusedSectionVars false
namespace Go.Proofs.YtjhfloacokgdiaaGreatDoor
open Go Go.Vm
attribute [local irreducible] Go.Vm.Ev Go.Vm.Os Go.Vm.OsP Go.Vm.Lp Go.Vm.u7 Go.Vm.H7 Go.Vm.I5 Go.Vm.E
abbrev b5T (s1:Str)(p:Option (Bool)):Prop:=OkF env p 11 [.str s1] [] (b3a s1)
instance law02_fits_I {s1:Str}:b5T s1 (a5r s1):=⟨fun{r} h=>by
 unfold a5r at h
 refine E5 rfl Tryz.func11 rfl rfl ?_
 exact Z4⟩
abbrev a2r (a1 b2:Typ)(p:Option (Bool)):Prop:=OkF env p 31 [.agg [.i a1.kind,.str a1.name,.i a1.n,.sl D9 a1.args],.agg [.i b2.kind,.str b2.name,.i b2.n,.sl D9 b2.args]] [] (b0f a1 b2)
abbrev a1f (a1 b2:List Typ)(p:Option (Bool)):Prop:=OkF env p 32 [.sl D9 a1,.sl D9 b2,.func (.func 31) [] []] [] (a3j a1 b2)
class A8.Ok (Φ:A8):Prop where
 N8:∀{a1 b2:Typ},a2r a1 b2 (Φ.N8 a1 b2)
 K7:∀{a1 b2:List Typ},a1f a1 b2 (Φ.K7 a1 b2)
instance {Φ:A8} [h:A8.Ok Φ] {a1 b2:Typ}:a2r a1 b2 (Φ.N8 a1 b2):=h.N8
instance {Φ:A8} [h:A8.Ok Φ] {a1 b2:List Typ}:a1f a1 b2 (Φ.K7 a1 b2):=h.K7
theorem b0e (n:Nat){Φ:A8} [hΦ:A8.Ok Φ] {a1 b2:Typ}:a2r a1 b2 (a1M n Φ a1 b2):=⟨fun{r} h=>by
 unfold a1M at h
 obtain⟨a1_0,a1_1,a1_2,a1_3⟩:=a1
 obtain⟨b2_0,b2_1,b2_2,b2_3⟩:=b2
 refine E5 rfl Tryz.func31 rfl rfl ?_
 exact Z4⟩
theorem a6X (n:Nat){Φ:A8} [hΦ:A8.Ok Φ] {a1 b2:List Typ}:a1f a1 b2 (a0C n Φ a1 b2):=⟨fun{r} h=>by
 unfold a0C at h
 refine E5 rfl Tryz.func32 rfl rfl ?_
 let kr:=fun r:Bool=>a2a env 32 0 Tryz.f32.results.toList (a3j a1 b2 r)
 let jn1:Jn 10 (Unit):=⟨fun fr H z=>([],[])⟩
 let jl1:Jn 4 (Int):=⟨fun fr H z=>([(0,.sl D9 a1),(1,.sl D9 b2),(2,.func (.func 31) [] []),(14,.i (List.length a1:Int)),(15,.i z)],[])⟩
 exact Z4⟩
theorem A8.ok:∀n,A8.Ok (A8.fs n)
 | 0=>⟨⟨fun h=>by cases h⟩,⟨fun h=>by cases h⟩⟩
 | n+1=>have:=A8.ok n;⟨b0e n,a6X n⟩
instance c1z {n:Nat}{a1 b2:Typ}:a2r a1 b2 (N8 n a1 b2):=(A8.ok n).N8
instance b6D {n:Nat}{a1 b2:List Typ}:a1f a1 b2 (K7 n a1 b2):=(A8.ok n).K7
abbrev a4O (a1 b2:Nod)(p:Option (Bool)):Prop:=OkF env p 12 [.agg (c0 a1.op a1.s a1.n a1.t.kind a1.t.name a1.t.n (.sl D9 a1.t.args) (.sl D9 a1.ts) (.sl F5 a1.l) a1.at_),.agg (c0 b2.op b2.s b2.n b2.t.kind b2.t.name b2.t.n (.sl D9 b2.t.args) (.sl D9 b2.ts) (.sl F5 b2.l) b2.at_)] [] (b3v a1 b2)
abbrev a1e (a1 b2:List Nod)(p:Option (Bool)):Prop:=OkF env p 33 [.sl F5 a1,.sl F5 b2,.func (.func 12) [] []] [] (a3i a1 b2)
class G5.Ok (Φ:G5):Prop where
 a0G:∀{a1 b2:Nod},a4O a1 b2 (Φ.a0G a1 b2)
 M7:∀{a1 b2:List Nod},a1e a1 b2 (Φ.M7 a1 b2)
instance {Φ:G5} [h:G5.Ok Φ] {a1 b2:Nod}:a4O a1 b2 (Φ.a0G a1 b2):=h.a0G
instance {Φ:G5} [h:G5.Ok Φ] {a1 b2:List Nod}:a1e a1 b2 (Φ.M7 a1 b2):=h.M7
theorem b3u (n:Nat){Φ:G5} [hΦ:G5.Ok Φ] {a1 b2:Nod}:a4O a1 b2 (a3u n Φ a1 b2):=⟨fun{r} h=>by
 unfold a3u at h
 obtain⟨a1_0,a1_1,a1_2,⟨a1_3,a1_4,a1_5,a1_6⟩,a1_7,a1_8,a1_9⟩:=a1
 obtain⟨b2_0,b2_1,b2_2,⟨b2_3,b2_4,b2_5,b2_6⟩,b2_7,b2_8,b2_9⟩:=b2
 refine E5 rfl Tryz.func12 rfl rfl ?_
 exact Z4⟩
theorem a6W (n:Nat){Φ:G5} [hΦ:G5.Ok Φ] {a1 b2:List Nod}:a1e a1 b2 (a0B n Φ a1 b2):=⟨fun{r} h=>by
 unfold a0B at h
 refine E5 rfl Tryz.func33 rfl rfl ?_
 let kr:=fun r:Bool=>a2a env 33 0 Tryz.f33.results.toList (a3i a1 b2 r)
 let jn1:Jn 10 (Unit):=⟨fun fr H z=>([],[])⟩
 let jl1:Jn 4 (Int):=⟨fun fr H z=>([(0,.sl F5 a1),(1,.sl F5 b2),(2,.func (.func 12) [] []),(14,.i (List.length a1:Int)),(15,.i z)],[])⟩
 exact Z4⟩
theorem G5.ok:∀n,G5.Ok (G5.fs n)
 | 0=>⟨⟨fun h=>by cases h⟩,⟨fun h=>by cases h⟩⟩
 | n+1=>have:=G5.ok n;⟨b3u n,a6W n⟩
instance parse_Same_I {n:Nat}{a1 b2:Nod}:a4O a1 b2 (a0G n a1 b2):=(G5.ok n).a0G
instance b6C {n:Nat}{a1 b2:List Nod}:a1e a1 b2 (M7 n a1 b2):=(G5.ok n).M7
abbrev b3N (t1:Tok)(p:Option (Str)):Prop:=OkF env p 39 [.agg [.i t1.kind,.str t1.text,.i t1.at_,.i t1.len]] [] (b1p t1)
instance scan_spelled_I {t1:Tok}:b3N t1 (a3D t1):=⟨fun{r} h=>by
 unfold a3D at h
 refine E5 rfl Tryz.func39 rfl rfl ?_
 exact Z4⟩
abbrev b6g (l1:List Tok)(p:Option (Str×Int)):Prop:=OkF env p 17 [.sl p8 l1] [] (a8W l1)
instance scan_Spell_I {n:Nat}{l1:List Tok}:b6g l1 (a5A n l1):=⟨fun{r} h=>by
 unfold a5A at h
 refine E5 rfl Tryz.func17 rfl rfl ?_
 let kr:=fun r:Str×Int=>a2a env 17 0 Tryz.f17.results.toList (a8W l1 r)
 let jn1:Jn 17 (List Str):=⟨fun fr H z=>([(0,.sl p8 l1),(4,.st 0 clS z)],[(0,.tip 1 (List.length z))])⟩
 let jl1:Jn 6 (List Str×Int×Int):=⟨fun fr H z=>([(0,.sl p8 l1),(4,.st 0 clS z.1),(5,.i z.2.1),(20,.sl p8 l1),(21,.i (List.length l1:Int)),(22,.i z.2.2)],[(0,.tip 1 (List.length z.1))])⟩
 let jn2:Jn 30020 (Bool):=⟨fun fr H z=>([(0,.sl p8 l1),(9,(lk 45 fr)),(10,ow .sealed (lk 49 fr)),(60,.bool z)],[])⟩
 let jn3:Jn 27 (Unit):=⟨fun fr H z=>([(9,(lk 9 fr))],[])⟩
 let jl2:Jn 21 (Int):=⟨fun fr H z=>([(0,.sl p8 l1),(9,(lk 9 fr)),(61,ow .sealed (lk 10 fr)),(62,(lk 62 fr)),(63,.i z)],[])⟩
 let jn4:Jn 30025 (Bool):=⟨fun fr H z=>([(0,.sl p8 l1),(9,(lk 9 fr)),(61,ow .sealed (lk 61 fr)),(62,(lk 62 fr)),(63,(lk 63 fr)),(85,.bool z)],[])⟩
 exact Z4⟩
abbrev b5U (V3:Str)(p:Option (Unit)):Prop:=OkF env p 7 [.str V3] [] (b3b V3)
instance law02_long_I {V3:Str}:b5U V3 (a7q V3):=⟨fun{r} h=>by
 unfold a7q at h
 refine E5 rfl Tryz.func7 rfl rfl ?_
 exact Z4⟩
abbrev b4a (V3:Str)(p:Option (Flt×List Tok)):Prop:=OkF env p 18 [.str V3] [] (b1X V3)
instance parse_begin_I {V3:Str}:b4a V3 (a4p V3):=⟨fun{r} h=>by
 unfold a4p at h
 refine E5 rfl Tryz.func18 rfl rfl ?_
 let ls:Nat->List Nat:=fun n=>cond (Nat.beq n 2) [384] ([])
 exact Z4⟩
abbrev a9v (d9:List Tok)(at2 j4:Int)(p:Option (Int)):Prop:=OkF env p 19 [.ptr 0 0] (hP p8 d9 at2 j4) (a8d d9 at2 j4)
instance b8p {d9:List Tok}{at2 j4:Int}:a9v d9 at2 j4 (a0l d9 at2 j4):=⟨fun{r} h=>by
 unfold a0l at h
 refine E5 rfl Tryz.func19 rfl rfl ?_
 exact Z4⟩
abbrev b0J (n1 b1F:Int)(b0V:Str)(a4h:List Tok)(at5 b1Q:Int)(p:Option (Bool)):Prop:=OkF env p 42 [.ptr 0 0,.i n1,.i b1F,.str b0V] (hP p8 a4h at5 b1Q) (a9w n1 b1F b0V a4h at5 b1Q)
instance c0O {n1 b1F:Int}{b0V:Str}{a4h:List Tok}{at5 b1Q:Int}:b0J n1 b1F b0V a4h at5 b1Q (l7 n1 b1F b0V a4h at5 b1Q):=⟨fun{r} h=>by
 unfold l7 at h
 refine E5 rfl Tryz.func42 rfl rfl ?_
 let ls:Nat->List Nat:=fun n=>cond (Nat.beq n 3) [0,0] ([])
 exact Z4⟩
abbrev a9y (op1:Int)(o7:List Tok)(at3 D6:Int)(p:Option (Int)):Prop:=OkF env p 46 [.ptr 0 0,.i op1] (hP p8 o7 at3 D6) (a8f op1 o7 at3 D6)
instance b8r {op1:Int}{o7:List Tok}{at3 D6:Int}:a9y op1 o7 at3 D6 (p9 op1 o7 at3 D6):=⟨fun{r} h=>by
 unfold p9 at h
 refine E5 rfl Tryz.func46 rfl rfl ?_
 exact Z4⟩
abbrev a9u (d9:List Tok)(at2 j4:Int)(p:Option (Rs Empty Int)):Prop:=OkF env p 36 [.ptr 0 0] (hP p8 d9 at2 j4) (a8b d9 at2 j4)
instance b8o {d9:List Tok}{at2 j4:Int}:a9u d9 at2 j4 (a0k d9 at2 j4):=⟨fun{r} h=>by
 unfold a0k at h
 refine E5 rfl Tryz.func36 rfl rfl ?_
 exact Z4⟩
abbrev a8P (b1E:Int)(o7:List Tok)(at3 D6:Int)(p:Option (Rs Tok Int)):Prop:=OkF env p 96 [.ptr 0 0,.i b1E] (hP p8 o7 at3 D6) (a7C b1E o7 at3 D6)
instance b7T {b1E:Int}{o7:List Tok}{at3 D6:Int}:a8P b1E o7 at3 D6 (H9 b1E o7 at3 D6):=⟨fun{r} h=>by
 unfold H9 at h
 refine E5 rfl Tryz.func96 rfl rfl ?_
 let ls:Nat->List Nat:=fun n=>cond (Nat.beq n 3) [0,0] ([])
 exact Z4⟩
abbrev a7w (d9:List Tok)(at2 j4:Int)(p:Option (Rs Str Int)):Prop:=OkF env p 48 [.ptr 0 0] (hP p8 d9 at2 j4) (a6l d9 at2 j4)
instance b54 {d9:List Tok}{at2 j4:Int}:a7w d9 at2 j4 (D5 d9 at2 j4):=⟨fun{r} h=>by
 unfold D5 at h
 refine E5 rfl Tryz.func48 rfl rfl ?_
 exact Z4⟩
abbrev b0d (a4w:Str)(o7:List Tok)(at3 D6:Int)(p:Option (Bool×Int)):Prop:=OkF env p 47 [.ptr 0 0,.str a4w] (hP p8 o7 at3 D6) (a8L a4w o7 at3 D6)
instance b9u {a4w:Str}{o7:List Tok}{at3 D6:Int}:b0d a4w o7 at3 D6 (C9 a4w o7 at3 D6):=⟨fun{r} h=>by
 unfold C9 at h
 refine E5 rfl Tryz.func47 rfl rfl ?_
 exact Z4⟩
abbrev a7E (a4w:Str)(o7:List Tok)(at3 D6:Int)(p:Option (Rs Int (Int×Int))):Prop:=OkF env p 52 [.ptr 0 0,.str a4w] (hP p8 o7 at3 D6) (a6t a4w o7 at3 D6)
instance b6a {a4w:Str}{o7:List Tok}{at3 D6:Int}:a7E a4w o7 at3 D6 (E9 a4w o7 at3 D6):=⟨fun{r} h=>by
 unfold E9 at h
 refine E5 rfl Tryz.func52 rfl rfl ?_
 exact Z4⟩
abbrev a9z (a4s:Str)(o7:List Tok)(at3 D6:Int)(p:Option (Bool×Int)):Prop:=OkF env p 97 [.ptr 0 0,.str a4s] (hP p8 o7 at3 D6) (a8k a4s o7 at3 D6)
instance b8t {a4s:Str}{o7:List Tok}{at3 D6:Int}:a9z a4s o7 at3 D6 (o8 a4s o7 at3 D6):=⟨fun{r} h=>by
 unfold o8 at h
 refine E5 rfl Tryz.func97 rfl rfl ?_
 exact Z4⟩
abbrev a9A (a4s:Str)(o7:List Tok)(at3 D6:Int)(p:Option (Rs Int (Int×Int))):Prop:=OkF env p 90 [.ptr 0 0,.str a4s] (hP p8 o7 at3 D6) (a8l a4s o7 at3 D6)
instance b8u {a4s:Str}{o7:List Tok}{at3 D6:Int}:a9A a4s o7 at3 D6 (o5 a4s o7 at3 D6):=⟨fun{r} h=>by
 unfold o5 at h
 refine E5 rfl Tryz.func90 rfl rfl ?_
 exact Z4⟩
abbrev a7X (d9:List Tok)(at2 j4:Int)(p:Option (Rs (List Nod×Int) (Int×Int))):Prop:=OkF env p 91 [.ptr 0 0] (hP p8 d9 at2 j4) (a6P d9 at2 j4)
instance b6v {n:Nat}{d9:List Tok}{at2 j4:Int}:a7X d9 at2 j4 (V7 n d9 at2 j4):=⟨fun{r} h=>by
 unfold V7 at h
 refine E5 rfl Tryz.func91 rfl rfl ?_
 let jl1:Jn 4 (List Nod×Int):=⟨fun fr H z=>([(0,.ptr 0 0),(3,.st 1 F5 z.1)],[(0,.row [.sl p8 d9,.i z.2,.i j4]),(1,.tip (tpe 10 (List.length z.1)) (List.length z.1))])⟩
 exact Z4⟩
abbrev b4b (a3O:Str)(M8:List Typ)(p:Option (Typ)):Prop:=OkF env p 146 [.str a3O,.sl D9 M8] [] (a7Q a3O M8)
instance parse_named_I {a3O:Str}{M8:List Typ}:b4b a3O M8 (a4q a3O M8):=⟨fun{r} h=>by
 unfold a4q at h
 refine E5 rfl Tryz.func146 rfl rfl ?_
 let kr:=fun r:Typ=>a2a env 146 0 Tryz.f146.results.toList (a7Q a3O M8 r)
 let jn1:Jn 16 (Int):=⟨fun fr H z=>([(0,.str a3O),(1,.sl D9 M8),(4,.ptr 0 0),(5,.i z)],[(0,.row [.i 0,.str [],.i 0,.slice (.tag 1) 0 []]),(1,.tip 0 0)])⟩
 let jn2:Jn 30004 (Bool):=⟨fun fr H z=>([(0,.str a3O),(1,.sl D9 M8),(4,.ptr 0 0),(5,.i 6),(6,.bool z)],[(0,.row [.i 0,.str [],.i 0,.slice (.tag 1) 0 []]),(1,.tip 0 0)])⟩
 let jn3:Jn 30006 (Bool):=⟨fun fr H z=>([(0,.str a3O),(1,.sl D9 M8),(4,.ptr 0 0),(5,.i 6),(16,.bool z)],[(0,oH H 0),(1,.tip 0 0)])⟩
 exact Z4⟩
abbrev a1V (d9:List Tok)(at2 j4:Int)(p:Option (Rs (Typ×Int) (Int×Int))):Prop:=OkF env p 93 [.ptr 0 0] (hP p8 d9 at2 j4) (a4r d9 at2 j4)
abbrev a1D (inExpr1:Bool)(o7:List Tok)(at3 D6:Int)(p:Option (Rs (Typ×Int) (Int×Int))):Prop:=OkF env p 131 [.ptr 0 0,.bool inExpr1] (hP p8 o7 at3 D6) (a3S inExpr1 o7 at3 D6)
class o9.Ok (Φ:o9):Prop where
 A7:∀{d9:List Tok} {at2 j4:Int},a1V d9 at2 j4 (Φ.A7 d9 at2 j4)
 K3:∀{inExpr1:Bool} {o7:List Tok} {at3 D6:Int},a1D inExpr1 o7 at3 D6 (Φ.K3 inExpr1 o7 at3 D6)
instance {Φ:o9} [h:o9.Ok Φ] {d9:List Tok}{at2 j4:Int}:a1V d9 at2 j4 (Φ.A7 d9 at2 j4):=h.A7
instance {Φ:o9} [h:o9.Ok Φ] {inExpr1:Bool}{o7:List Tok}{at3 D6:Int}:a1D inExpr1 o7 at3 D6 (Φ.K3 inExpr1 o7 at3 D6):=h.K3
theorem a8Q (n:Nat){Φ:o9} [hΦ:o9.Ok Φ] {d9:List Tok}{at2 j4:Int}:a1V d9 at2 j4 (a0L n Φ d9 at2 j4):=⟨fun{r} h=>by
 unfold a0L at h
 refine E5 rfl Tryz.func93 rfl rfl ?_
 let kr:=fun r:Rs (Typ×Int) (Int×Int)=>a2a env 93 1 Tryz.f93.results.toList (a4r d9 at2 j4 r)
 let jn1:Jn 12 (List Typ×Int):=⟨fun fr H z=>([(0,.ptr 0 0),(2,.ptr 1 0),(3,.st 2 D9 z.1)],[(0,.row [.sl p8 d9,.i z.2,.i j4]),(1,.row [.i 0,.str [],.i 0,.slice (.tag 3) 0 []]),(2,.tip (tpe 4 (List.length z.1)) (List.length z.1)),(3,.tip 0 0)])⟩
 let jn2:Jn 11 (List Typ×Int):=⟨fun fr H z=>([(0,.ptr 0 0),(2,.ptr 1 0),(3,.st 2 D9 z.1)],[(0,.row [.sl p8 d9,.i z.2,.i j4]),(1,.row [.i 0,.str [],.i 0,.slice (.tag 3) 0 []]),(2,.tip (tpe 4 (List.length z.1)) (List.length z.1)),(3,.tip 0 0)])⟩
 let jl1:Jn 8 (List Typ×Int):=⟨fun fr H z=>([(0,.ptr 0 0),(2,.ptr 1 0),(3,.st 2 D9 z.1)],[(0,.row [.sl p8 d9,.i z.2,.i j4]),(1,.row [.i 0,.str [],.i 0,.slice (.tag 3) 0 []]),(2,.tip (tpe 4 (List.length z.1)) (List.length z.1)),(3,.tip 0 0)])⟩
 exact Z4⟩
theorem a8h (n:Nat){Φ:o9} [hΦ:o9.Ok Φ] {inExpr1:Bool}{o7:List Tok}{at3 D6:Int}:a1D inExpr1 o7 at3 D6 (a0s n Φ inExpr1 o7 at3 D6):=⟨fun{r} h=>by
 unfold a0s at h
 refine E5 rfl Tryz.func131 rfl rfl ?_
 let kr:=fun r:Rs (Typ×Int) (Int×Int)=>a2a env 131 1 Tryz.f131.results.toList (a3S inExpr1 o7 at3 D6 r)
 let jn1:Jn 9 (List Typ×Int):=⟨fun fr H z=>([(0,.ptr 0 0),(1,.bool inExpr1),(4,.ptr 1 0),(5,(lk 9 fr)),(6,.st 2 D9 z.1)],[(0,.row [.sl p8 o7,.i z.2,.i D6]),(1,.row [.i 0,.str [],.i 0,.slice (.tag 3) 0 []]),(2,.tip (tpe 4 (List.length z.1)) (List.length z.1)),(3,.tip 0 0)])⟩
 let jn2:Jn 8 (List Typ×Int):=⟨fun fr H z=>([(0,.ptr 0 0),(1,.bool inExpr1),(4,.ptr 1 0),(5,(lk 9 fr)),(6,.st 2 D9 z.1)],[(0,.row [.sl p8 o7,.i z.2,.i D6]),(1,.row [.i 0,.str [],.i 0,.slice (.tag 3) 0 []]),(2,.tip (tpe 4 (List.length z.1)) (List.length z.1)),(3,.tip 0 0)])⟩
 let jl1:Jn 5 (List Typ×Int):=⟨fun fr H z=>([(0,.ptr 0 0),(1,.bool inExpr1),(4,.ptr 1 0),(5,(lk 9 fr)),(6,.st 2 D9 z.1)],[(0,.row [.sl p8 o7,.i z.2,.i D6]),(1,.row [.i 0,.str [],.i 0,.slice (.tag 3) 0 []]),(2,.tip (tpe 4 (List.length z.1)) (List.length z.1)),(3,.tip 0 0)])⟩
 let jn3:Jn 13 (Int×Typ):=⟨fun fr H z=>([(4,.ptr 1 0),(7,.ptr 2 0)],[(0,.row [.sl p8 o7,.i z.1,.i D6]),(1,oH H 1),(2,.row [.i z.2.kind,.str z.2.name,.i z.2.n,.sl D9 z.2.args]),(3,.tip 0 0)])⟩
 let jl2:Jn 9 (Int×Typ):=⟨fun fr H z=>([(0,.ptr 0 0),(1,.bool inExpr1),(4,.ptr 1 0),(7,.ptr 2 0)],[(0,.row [.sl p8 o7,.i z.1,.i D6]),(1,oH H 1),(2,.row [.i z.2.kind,.str z.2.name,.i z.2.n,.sl D9 z.2.args]),(3,.tip 0 0)])⟩
 let jn4:Jn 90038 (Bool):=⟨fun fr H z=>([(0,.ptr 0 0),(1,.bool inExpr1),(4,.ptr 1 0),(7,.ptr 2 0),(38,.bool z)],[(0,oH H 0),(1,oH H 1),(2,oH H 2),(3,.tip 0 0)])⟩
 let ls:Nat->List Nat:=fun n=>cond (Nat.beq n 11) [2] ([])
 exact Z4⟩
theorem o9.ok:∀n,o9.Ok (o9.fs n)
 | 0=>⟨⟨fun h=>by cases h⟩,⟨fun h=>by cases h⟩⟩
 | n+1=>have:=o9.ok n;⟨a8Q n,a8h n⟩
instance b9w {n:Nat}{d9:List Tok}{at2 j4:Int}:a1V d9 at2 j4 (A7 n d9 at2 j4):=(o9.ok n).A7
instance b8s {n:Nat}{inExpr1:Bool}{o7:List Tok}{at3 D6:Int}:a1D inExpr1 o7 at3 D6 (K3 n inExpr1 o7 at3 D6):=(o9.ok n).K3
abbrev a9x (d9:List Tok)(at2 j4:Int)(p:Option (Rs Str Int)):Prop:=OkF env p 98 [.ptr 0 0] (hP p8 d9 at2 j4) (a8e d9 at2 j4)
instance b8q {d9:List Tok}{at2 j4:Int}:a9x d9 at2 j4 (F3 d9 at2 j4):=⟨fun{r} h=>by
 unfold F3 at h
 refine E5 rfl Tryz.func98 rfl rfl ?_
 exact Z4⟩
abbrev a8g (d9:List Tok)(at2 j4:Int)(p:Option (Rs (List Nod×Int) (Int×Int))):Prop:=OkF env p 129 [.ptr 0 0] (hP p8 d9 at2 j4) (a3f d9 at2 j4)
instance b6z {n:Nat}{d9:List Tok}{at2 j4:Int}:a8g d9 at2 j4 (V9 n d9 at2 j4):=⟨fun{r} h=>by
 unfold V9 at h
 refine E5 rfl Tryz.func129 rfl rfl ?_
 let kr:=fun r:Rs (List Nod×Int) (Int×Int)=>a2a env 129 1 Tryz.f129.results.toList (a3f d9 at2 j4 r)
 let jn1:Jn 16 (List Nod×Int):=⟨fun fr H z=>([(0,.ptr 0 0),(3,.st 1 F5 z.1)],[(0,.row [.sl p8 d9,.i z.2,.i j4]),(1,.tip (tpe 10 (List.length z.1)) (List.length z.1))])⟩
 let jl1:Jn 5 (List Nod×Int):=⟨fun fr H z=>([(0,.ptr 0 0),(3,.st 1 F5 z.1)],[(0,.row [.sl p8 d9,.i z.2,.i j4]),(1,.tip (tpe 10 (List.length z.1)) (List.length z.1))])⟩
 let jn2:Jn 11 (Int×Int):=⟨fun fr H z=>([(0,.ptr 0 0),(3,ow (.tag 1) (lk 3 fr)),(4,.ptr 2 0)],[(0,.row [.sl p8 d9,.i z.1,.i j4]),(1,oH H 1),(2,.row [.i 10,.str [],.i z.2,.i 0,.str [],.i 0,.slice .sealed 0 [],.slice (.tag 3) 0 [],.slice (.tag 4) 0 [],(agC (lk 10 fr) 9)]),(3,.tip 0 0),(4,.tip 0 0)])⟩
 exact Z4⟩
abbrev a8i (d9:List Tok)(at2 j4:Int)(p:Option (Rs (Typ×Int) (Int×Int))):Prop:=OkF env p 130 [.ptr 0 0] (hP p8 d9 at2 j4) (a6V d9 at2 j4)
instance b6A {n:Nat}{d9:List Tok}{at2 j4:Int}:a8i d9 at2 j4 (W9 n d9 at2 j4):=⟨fun{r} h=>by
 unfold W9 at h
 refine E5 rfl Tryz.func130 rfl rfl ?_
 exact Z4⟩
abbrev a6R (d9:List Tok)(at2 j4:Int)(p:Option (Rs (List Nod×Int) (Int×Int))):Prop:=OkF env p 49 [.ptr 0 0] (hP p8 d9 at2 j4) (a2x d9 at2 j4)
instance b41 {n:Nat}{d9:List Tok}{at2 j4:Int}:a6R d9 at2 j4 (M6 n d9 at2 j4):=⟨fun{r} h=>by
 unfold M6 at h
 refine E5 rfl Tryz.func49 rfl rfl ?_
 let kr:=fun r:Rs (List Nod×Int) (Int×Int)=>a2a env 49 1 Tryz.f49.results.toList (a2x d9 at2 j4 r)
 let jn1:Jn 10 (List Nod×Int):=⟨fun fr H z=>([(0,.ptr 0 0),(3,.st 1 F5 z.1)],[(0,.row [.sl p8 d9,.i z.2,.i j4]),(1,.tip (tpe 10 (List.length z.1)) (List.length z.1))])⟩
 let jl1:Jn 4 (List Nod×Int):=⟨fun fr H z=>([(0,.ptr 0 0),(3,.st 1 F5 z.1)],[(0,.row [.sl p8 d9,.i z.2,.i j4]),(1,.tip (tpe 10 (List.length z.1)) (List.length z.1))])⟩
 exact Z4⟩
abbrev a8R (d9:List Tok)(at2 j4:Int)(p:Option (Rs (List Nod×Int) (Int×Int))):Prop:=OkF env p 94 [.ptr 0 0] (hP p8 d9 at2 j4) (a3C d9 at2 j4)
instance b7V {n:Nat}{d9:List Tok}{at2 j4:Int}:a8R d9 at2 j4 (Y8 n d9 at2 j4):=⟨fun{r} h=>by
 unfold Y8 at h
 refine E5 rfl Tryz.func94 rfl rfl ?_
 let kr:=fun r:Rs (List Nod×Int) (Int×Int)=>a2a env 94 1 Tryz.f94.results.toList (a3C d9 at2 j4 r)
 let jl1:Jn 4 (List Nod×Int):=⟨fun fr H z=>([(0,.ptr 0 0),(3,.st 1 F5 z.1)],[(0,.row [.sl p8 d9,.i z.2,.i j4]),(1,.tip (tpe 10 (List.length z.1)) (List.length z.1))])⟩
 let jn1:Jn 13 (Int×Str×Int×List Typ):=⟨fun fr H z=>([(0,.ptr 0 0),(3,ow (.tag 1) (lk 3 fr)),(4,.ptr 2 0)],[(0,.row [.sl p8 d9,.i z.1,.i j4]),(1,oH H 1),(2,.row [.i 12,.str z.2.1,.i z.2.2.1,(agC (lk 11 fr) 0),(agC (lk 11 fr) 1),(agC (lk 11 fr) 2),ow .sealed (agC (lk 11 fr) 3),.st 3 D9 z.2.2.2,.slice (.tag 4) 0 [],(agC (lk 9 fr) 9)]),(3,.tip (tpe 4 (List.length z.2.2.2)) (List.length z.2.2.2)),(4,.tip 0 0)])⟩
 exact Z4⟩
abbrev a6s (d9:List Tok)(at2 j4:Int)(p:Option (Rs (Str×Typ×List Nod×Int×Int) (Int×Int))):Prop:=OkF env p 92 [.ptr 0 0] (hP p8 d9 at2 j4) (a2j d9 at2 j4)
instance b4c {n:Nat}{d9:List Tok}{at2 j4:Int}:a6s d9 at2 j4 (P7 n d9 at2 j4):=⟨fun{r} h=>by
 unfold P7 at h
 refine E5 rfl Tryz.func92 rfl rfl ?_
 let kr:=fun r:Rs (Str×Typ×List Nod×Int×Int) (Int×Int)=>a2a env 92 1 Tryz.f92.results.toList (a2j d9 at2 j4 r)
 let jn1:Jn 13 (Int×List Nod):=⟨fun fr H z=>([(0,.ptr 0 0),(2,.ptr 1 0),(3,.ptr 2 0)],[(0,.row [.sl p8 d9,.i z.1,.i j4]),(1,.row [.i 0,.str [],.i 0,.i 0,.str [],.i 0,.slice (.tag 3) 0 [],.slice (.tag 4) 0 [],.slice (.tag 5) 0 [],.i 0]),(2,.row [.i 7,(lk 10 fr),.i 0,.i 0,.str [],.i 0,.slice .sealed 0 [],.slice (.tag 6) 0 [],.st 7 F5 z.2,(agC (lk 6 fr) 9)]),(3,.tip 0 0),(4,.tip 0 0),(5,.tip 0 0),(6,.tip 0 0),(7,.tip (tpe 10 (List.length z.2)) (List.length z.2))])⟩
 let ls:Nat->List Nat:=fun n=>cond (Nat.beq n 13) [2] (cond (Nat.beq n 5) [256] ([]))
 exact Z4⟩
abbrev a6U (d9:List Tok)(at2 j4:Int)(p:Option (Rs (Nod×Int) (Int×Int))):Prop:=OkF env p 43 [.ptr 0 0] (hP p8 d9 at2 j4) (a2y d9 at2 j4)
instance b42 {n:Nat}{d9:List Tok}{at2 j4:Int}:a6U d9 at2 j4 (Y1 n d9 at2 j4):=⟨fun{r} h=>by
 unfold Y1 at h
 refine E5 rfl Tryz.func43 rfl rfl ?_
 let kr:=fun r:Rs (Nod×Int) (Int×Int)=>a2a env 43 1 Tryz.f43.results.toList (a2y d9 at2 j4 r)
 let jn1:Jn 13 (Int×List Nod):=⟨fun fr H z=>([(0,.ptr 0 0),(2,.ptr 1 0),(3,.ptr 2 0)],[(0,.row [.sl p8 d9,.i z.1,.i j4]),(1,.row [.i 0,.str [],.i 0,.i 0,.str [],.i 0,.slice (.tag 3) 0 [],.slice (.tag 4) 0 [],.slice (.tag 5) 0 [],.i 0]),(2,.row [.i 5,(lk 11 fr),.i 0,.i 0,.str [],.i 0,.slice .sealed 0 [],.slice (.tag 6) 0 [],.st 7 F5 z.2,(agC (lk 7 fr) 9)]),(3,.tip 0 0),(4,.tip 0 0),(5,.tip 0 0),(6,.tip 0 0),(7,.tip (tpe 10 (List.length z.2)) (List.length z.2))])⟩
 let jl1:Jn 5 (Int×List Nod):=⟨fun fr H z=>([(0,.ptr 0 0),(2,.ptr 1 0),(3,.ptr 2 0)],[(0,.row [.sl p8 d9,.i z.1,.i j4]),(1,.row [.i 0,.str [],.i 0,.i 0,.str [],.i 0,.slice (.tag 3) 0 [],.slice (.tag 4) 0 [],.slice (.tag 5) 0 [],.i 0]),(2,.row [.i 5,(lk 11 fr),.i 0,.i 0,.str [],.i 0,.slice .sealed 0 [],.slice (.tag 6) 0 [],.st 7 F5 z.2,(agC (lk 7 fr) 9)]),(3,.tip 0 0),(4,.tip 0 0),(5,.tip 0 0),(6,.tip 0 0),(7,.tip (tpe 10 (List.length z.2)) (List.length z.2))])⟩
 let jn2:Jn 17 (Int×List Nod):=⟨fun fr H z=>([(0,.ptr 0 0),(2,.ptr 1 0),(3,.ptr 2 0)],[(0,.row [.sl p8 d9,.i z.1,.i j4]),(1,oH H 1),(2,.row [.i 5,(cH H 2 1),.i 0,.i 0,.str [],.i 0,.slice .sealed 0 [],.slice (.tag 6) 0 [],.st 7 F5 z.2,(cH H 2 9)]),(3,.tip 0 0),(4,.tip 0 0),(5,.tip 0 0),(6,.tip 0 0),(7,.tip (tpe 10 (List.length z.2)) (List.length z.2))])⟩
 let jl2:Jn 12 (Int×List Nod):=⟨fun fr H z=>([(0,.ptr 0 0),(2,.ptr 1 0),(3,.ptr 2 0)],[(0,.row [.sl p8 d9,.i z.1,.i j4]),(1,oH H 1),(2,.row [.i 5,(cH H 2 1),.i 0,.i 0,.str [],.i 0,.slice .sealed 0 [],.slice (.tag 6) 0 [],.st 7 F5 z.2,(cH H 2 9)]),(3,.tip 0 0),(4,.tip 0 0),(5,.tip 0 0),(6,.tip 0 0),(7,.tip (tpe 10 (List.length z.2)) (List.length z.2))])⟩
 exact Z4⟩
abbrev a8O (d9:List Tok)(at2 j4:Int)(p:Option (Rs (Nod×Int) (Int×Int))):Prop:=OkF env p 152 [.ptr 0 0] (hP p8 d9 at2 j4) (a3A d9 at2 j4)
instance b7S {n:Nat}{d9:List Tok}{at2 j4:Int}:a8O d9 at2 j4 (a0K n d9 at2 j4):=⟨fun{r} h=>by
 unfold a0K at h
 refine E5 rfl Tryz.func152 rfl rfl ?_
 let kr:=fun r:Rs (Nod×Int) (Int×Int)=>a2a env 152 1 Tryz.f152.results.toList (a3A d9 at2 j4 r)
 let jn1:Jn 8 (Int×Int×Str×List Nod):=⟨fun fr H z=>([(2,.ptr 1 0),(3,.ptr 2 0)],[(0,.row [.sl p8 d9,.i z.1,.i j4]),(1,.row [.i 0,.str [],.i 0,.i 0,.str [],.i 0,.slice (.tag 3) 0 [],.slice (.tag 4) 0 [],.slice (.tag 5) 0 [],.i 0]),(2,.row [.i z.2.1,.str z.2.2.1,.i 0,.i 0,.str [],.i 0,.slice .sealed 0 [],.slice (.tag 6) 0 [],.st 7 F5 z.2.2.2,(agC (lk 6 fr) 9)]),(3,.tip 0 0),(4,.tip 0 0),(5,.tip 0 0),(6,.tip 0 0),(7,.tip (tpe 10 (List.length z.2.2.2)) (List.length z.2.2.2))])⟩
 let jl1:Jn 3 (Int×Int×Str×List Nod):=⟨fun fr H z=>([(0,.ptr 0 0),(2,.ptr 1 0),(3,.ptr 2 0)],[(0,.row [.sl p8 d9,.i z.1,.i j4]),(1,.row [.i 0,.str [],.i 0,.i 0,.str [],.i 0,.slice (.tag 3) 0 [],.slice (.tag 4) 0 [],.slice (.tag 5) 0 [],.i 0]),(2,.row [.i z.2.1,.str z.2.2.1,.i 0,.i 0,.str [],.i 0,.slice .sealed 0 [],.slice (.tag 6) 0 [],.st 7 F5 z.2.2.2,(agC (lk 6 fr) 9)]),(3,.tip 0 0),(4,.tip 0 0),(5,.tip 0 0),(6,.tip 0 0),(7,.tip (tpe 10 (List.length z.2.2.2)) (List.length z.2.2.2))])⟩
 exact Z4⟩
abbrev a7z (d9:List Tok)(at2 j4:Int)(p:Option (Rs Int Int)):Prop:=OkF env p 149 [.ptr 0 0] (hP p8 d9 at2 j4) (a6p d9 at2 j4)
instance b57 {d9:List Tok}{at2 j4:Int}:a7z d9 at2 j4 (J2 d9 at2 j4):=⟨fun{r} h=>by
 unfold J2 at h
 refine E5 rfl Tryz.func149 rfl rfl ?_
 exact Z4⟩
abbrev b3x (p:Option (Unit)):Prop:=OkF env p 67 [] [] (b1l)
instance parse_levels_I:b3x (a4Q):=⟨fun{r} h=>by
 unfold a4Q at h
 refine E5 rfl Tryz.func67 rfl rfl ?_
 exact Z4⟩
abbrev a4T (s1:List Str)(v2:Str)(p:Option (Int)):Prop:=OkF env p 99 [.sl clS s1,.str v2] [] (a1P s1 v2)
instance b2r {n:Nat}{s1:List Str}{v2:Str}:a4T s1 v2 (V4 n s1 v2):=⟨fun{r} h=>by
 unfold V4 at h
 refine E5 rfl Tryz.func99 rfl rfl ?_
 let kr:=fun r:Int=>a2a env 99 0 Tryz.f99.results.toList (a1P s1 v2 r)
 let jn1:Jn 8 (Unit):=⟨fun fr H z=>([],[])⟩
 let jl1:Jn 2 (Int):=⟨fun fr H z=>([(0,.sl clS s1),(1,.str v2),(7,.i (List.length s1:Int)),(8,.i z)],[])⟩
 exact Z4⟩
abbrev a4a (s1:List Str)(v2:Str)(p:Option (Bool)):Prop:=OkF env p 53 [.sl clS s1,.str v2] [] (a3E s1 v2)
instance b1q {n:Nat}{s1:List Str}{v2:Str}:a4a s1 v2 (J8 n s1 v2):=⟨fun{r} h=>by
 unfold J8 at h
 refine E5 rfl Tryz.func53 rfl rfl ?_
 exact Z4⟩
abbrev a01 (d9:List Tok)(at2 j4:Int)(p:Option (Rs (Nod×Int) (Int×Int))):Prop:=OkF env p 173 [.ptr 0 0] (hP p8 d9 at2 j4) (a2G d9 at2 j4)
class z8.Ok (Φ:z8):Prop where
 F9:∀{d9:List Tok} {at2 j4:Int},a01 d9 at2 j4 (Φ.F9 d9 at2 j4)
instance {Φ:z8} [h:z8.Ok Φ] {d9:List Tok}{at2 j4:Int}:a01 d9 at2 j4 (Φ.F9 d9 at2 j4):=h.F9
theorem a6q (n:Nat){Φ:z8} [hΦ:z8.Ok Φ] {d9:List Tok}{at2 j4:Int}:a01 d9 at2 j4 (U7 n Φ d9 at2 j4):=⟨fun{r} h=>by
 unfold U7 at h
 refine E5 rfl Tryz.func173 rfl rfl ?_
 let kr:=fun r:Rs (Nod×Int) (Int×Int)=>a2a env 173 1 Tryz.f173.results.toList (a2G d9 at2 j4 r)
 let jn1:Jn 25 (Int×Int×Str×Int×List Nod):=⟨fun fr H z=>([(2,.ptr 1 0),(3,.ptr 2 0)],[(0,.row [.sl p8 d9,.i z.1,.i j4]),(1,.row [.i 0,.str [],.i 0,.i 0,.str [],.i 0,.slice (.tag 3) 0 [],.slice (.tag 4) 0 [],.slice (.tag 5) 0 [],.i 0]),(2,.row [.i z.2.1,.str z.2.2.1,.i z.2.2.2.1,.i 0,.str [],.i 0,.slice .sealed 0 [],.slice (.tag 6) 0 [],.st 7 F5 z.2.2.2.2,(agC (lk 5 fr) 9)]),(3,.tip 0 0),(4,.tip 0 0),(5,.tip 0 0),(6,.tip 0 0),(7,.tip (tpe 10 (List.length z.2.2.2.2)) (List.length z.2.2.2.2))])⟩
 let jn2:Jn 9 (Int×List Nod):=⟨fun fr H z=>([(0,.ptr 0 0),(2,.ptr 1 0),(3,.ptr 2 0)],[(0,.row [.sl p8 d9,.i z.1,.i j4]),(1,.row [.i 0,.str [],.i 0,.i 0,.str [],.i 0,.slice (.tag 3) 0 [],.slice (.tag 4) 0 [],.slice (.tag 5) 0 [],.i 0]),(2,.row [.i 45,(lk 9 fr),.i 0,.i 0,.str [],.i 0,.slice .sealed 0 [],.slice (.tag 6) 0 [],.st 7 F5 z.2,(agC (lk 5 fr) 9)]),(3,.tip 0 0),(4,.tip 0 0),(5,.tip 0 0),(6,.tip 0 0),(7,.tip (tpe 10 (List.length z.2)) (List.length z.2))])⟩
 let jl1:Jn 6 (Int×List Nod):=⟨fun fr H z=>([(0,.ptr 0 0),(2,.ptr 1 0),(3,.ptr 2 0)],[(0,.row [.sl p8 d9,.i z.1,.i j4]),(1,.row [.i 0,.str [],.i 0,.i 0,.str [],.i 0,.slice (.tag 3) 0 [],.slice (.tag 4) 0 [],.slice (.tag 5) 0 [],.i 0]),(2,.row [.i 45,(lk 9 fr),.i 0,.i 0,.str [],.i 0,.slice .sealed 0 [],.slice (.tag 6) 0 [],.st 7 F5 z.2,(agC (lk 5 fr) 9)]),(3,.tip 0 0),(4,.tip 0 0),(5,.tip 0 0),(6,.tip 0 0),(7,.tip (tpe 10 (List.length z.2)) (List.length z.2))])⟩
 let ls:Nat->List Nat:=fun n=>cond (Nat.beq n 7) [2] (cond (Nat.beq n 5) [256] ([]))
 exact Z4⟩
theorem z8.ok:∀n,z8.Ok (z8.fs n)
 | 0=>⟨⟨fun h=>by cases h⟩⟩
 | n+1=>have:=z8.ok n;⟨a6q n⟩
instance b58 {n:Nat}{d9:List Tok}{at2 j4:Int}:a01 d9 at2 j4 (F9 n d9 at2 j4):=(z8.ok n).F9
abbrev b4e (e1:Nod)(p:Option (Bool)):Prop:=OkF env p 161 [.agg (c0 e1.op e1.s e1.n e1.t.kind e1.t.name e1.t.n (.sl D9 e1.t.args) (.sl D9 e1.ts) (.sl F5 e1.l) e1.at_)] [] (a7R e1)
instance parse_place_I {n:Nat}{e1:Nod}:b4e e1 (a3h n e1):=⟨fun{r} h=>by
 unfold a3h at h
 obtain⟨e1_0,e1_1,e1_2,⟨e1_3,e1_4,e1_5,e1_6⟩,e1_7,e1_8,e1_9⟩:=e1
 refine E5 rfl Tryz.func161 rfl rfl ?_
 let kr:=fun r:Bool=>a2a env 161 0 Tryz.f161.results.toList (a7R (Nod.mk e1_0 e1_1 e1_2 (Typ.mk e1_3 e1_4 e1_5 e1_6) e1_7 e1_8 e1_9) r)
 let jn1:Jn 4 (Nod):=⟨fun fr H z=>([(1,.ptr 0 0)],[(0,.row (c0 z.op z.s z.n z.t.kind z.t.name z.t.n (.sl D9 z.t.args) (.sl D9 z.ts) (.sl F5 z.l) z.at_))])⟩
 let jl1:Jn 1 (Nod):=⟨fun fr H z=>([(1,.ptr 0 0)],[(0,.row (c0 z.op z.s z.n z.t.kind z.t.name z.t.n (.sl D9 z.t.args) (.sl D9 z.ts) (.sl F5 z.l) z.at_))])⟩
 exact Z4⟩
end Go.Proofs.YtjhfloacokgdiaaGreatDoor
