/- What the functions under ParsePlaces compute, step by step, as functions in Lean: texts that were built one by one, joined. -/
import Derived.Test.YtlfomdllnidliaaGreatDoorParsePlacesJ2
import Derived.KernelRfl
import Derived.Test.YtlfomdllnidliaaGreatDoorProg
set_option maxRecDepth 100000
set_option maxHeartbeats 20000000
set_option linter.unusedSimpArgs false
set_option linter.unusedVariables false
set_option linter.unusedSectionVars false
namespace Go.Vm
def eqV1:V -> V -> Bool
 | .bool a,.bool b=>decide (a = b)
 | .int j a,.int k b=>decide (j = k) && decide (a = b)
 | .str a,.str b=>decide (a = b)
 | .nilptr,.nilptr=>true
 | .slice .nil 0 [],.slice .nil 0 []=>true
 | .nilFunc,.nilFunc=>true
 | .nilIface,.nilIface=>true
 | .opq,.opq=>true
 | _,_=>false
theorem eqV1_ok {a b:V} (h:eqV1 a b = true):a = b:=by
 unfold eqV1 at h
 split at h <;> first | rfl | cases h | (simp at h; simp [h])
def eqVs1:List V -> List V -> Bool
 | [],[]=>true
 | a :: r,b :: s=>eqV1 a b && eqVs1 r s
 | _,_=>false
theorem b8n:∀ {a b:List V},eqVs1 a b = true -> a = b
 | [],[],_=>rfl
 | a :: r,b :: s,h=>by
  simp only [eqVs1,Bool.and_eq_true] at h
  rw [eqV1_ok h.1,b8n h.2]
 | [],_ :: _,h=>by cases h
 | _ :: _,[],h=>by cases h
def isAggV:Value -> Bool
 | .agg _=>true
 | _=>false
def infoB (P:Program) (t:Nat) (y:Ty):Bool :=
 match P.info? t with
 | none=>false
 | some i=>match i.zero with
  | none=>false
  | some z=>decide (i.size = y.size) && decide (i.bytes = y.bytes) && (match a1s a9G z.cells.toList with | some l=>eqVs1 l y.zero | none=>false) && decide (z.cells.size = y.size) && decide (isAggV z = a1x y.sh)
def shB (P:Program) (t:Nat):Sh -> Bool
 | .bool=>match P.underlying t with | some .bool=>true | _=>false
 | .string=>match P.underlying t with | some .string=>true | _=>false
 | .int k=>match P.underlying t with | some (.int j)=>decide (j = k) | _=>false
 | .ptr e=>match P.underlying t with | some (.pointer j)=>decide (j = e) | _=>false
 | .slice e=>match P.underlying t with | some (.slice j)=>decide (j = e) | _=>false
 | .array n e=>match P.underlying t with | some (.array m j)=>decide (m = n) && decide (j = e) | _=>false
 | .struct fs=>match P.underlying t with
  | some (.struct l)=>!P.stoodInHeld t && decide ((l.toList.map fun f=>(f.type,f.offset)) = fs) && l.toList.all (fun f=>decide (f.name ≠ "_")) && l.toList.all (fun f=>(P.info? f.type).isSome)
  | _=>false
 | .iface=>match P.underlying t with | some (.interface _)=>true | _=>false
 | .func=>match P.underlying t with | some (.func ..)=>true | _=>false
 | .other=>(P.underlying t).isSome
 | .map k e=>match P.underlying t with | some (.map i j)=>decide (i = k) && decide (j = e) | _=>false
 | .blk fs=>match P.underlying t with
  | some (.struct l)=>decide ((l.toList.map fun f=>(f.type,f.offset)) = fs) && l.toList.all (fun f=>(P.info? f.type).isSome)
  | _=>false
def b86 (P:Program) (t:Nat) (s:Sh):Bool :=
 match P.underlying t with
 | none=>false
 | some d=>(a1x s || (match d with | .struct _ | .array ..=>false | _=>true)) && (match s,d with | .iface,_=>true | _,.interface _=>false | _,_=>true) &&
  (match s with | .iface | .array .. | .blk _=>true | _=>!P.eqGuardType P.depth t)
def tyB (P:Program) (t:Nat) (y:Ty):Bool:=infoB P t y && shB P t y.sh && b86 P t y.sh
theorem b8e {z:Value} (h:isAggV z = false):z.cells = #[z]:=by cases z <;> first | rfl | cases h
theorem tyB_ok {P:Program} {t:Nat} {y:Ty} (h:tyB P t y = true):TyOk P t y:=by
 simp only [tyB,Bool.and_eq_true] at h
 obtain ⟨⟨h1,h2⟩,h3⟩:=h
 refine ⟨?_,?_,?_,?_,?_,?_⟩
 ·unfold infoB at h1
  split at h1
  ·cases h1
  ·rename_i i hi
   split at h1
   ·cases h1
   ·rename_i z hz
    simp only [Bool.and_eq_true,decide_eq_true_eq] at h1
    obtain ⟨⟨⟨⟨g1,g2⟩,g3⟩,g4⟩,g5⟩:=h1
    split at g3
    ·rename_i l hl
     have:=b8n g3
     subst this
     refine ⟨i,z,hi,g1,g2,hz,hl,g4,fun ha=>?_,fun ha=>b8e (g5.trans ha)⟩
     rw [ha] at g5
     cases z <;> first | exact ⟨_,rfl⟩ | cases g5
    ·cases g3
 ·unfold shB at h2
  split at h2 <;> rename_i hs <;> simp only [hs]
  ·split at h2 <;> first | assumption | cases h2
  ·split at h2 <;> first | assumption | cases h2
  ·split at h2
   ·rename_i hu; simp only [decide_eq_true_eq] at h2; subst h2; exact hu
   ·cases h2
  ·split at h2
   ·rename_i hu; simp only [decide_eq_true_eq] at h2; subst h2; exact hu
   ·cases h2
  ·split at h2
   ·rename_i hu; simp only [decide_eq_true_eq] at h2; subst h2; exact hu
   ·cases h2
  ·split at h2
   ·rename_i hu; simp only [Bool.and_eq_true,decide_eq_true_eq] at h2; obtain ⟨rfl,rfl⟩:=h2; exact hu
   ·cases h2
  ·split at h2
   ·rename_i l hu
    simp only [Bool.and_eq_true,Bool.not_eq_true',decide_eq_true_eq] at h2
    obtain ⟨⟨⟨g1,g2⟩,g3⟩,g4⟩:=h2
    exact ⟨g1,l,hu,g2,by simpa using g3,g4⟩
   ·cases h2
  ·split at h2
   ·rename_i ms hu; exact ⟨ms,hu⟩
   ·cases h2
  ·split at h2
   ·rename_i a b c hu; exact ⟨a,b,c,hu⟩
   ·cases h2
  ·split at h2
   ·rename_i hu; simp only [Bool.and_eq_true,decide_eq_true_eq] at h2; obtain ⟨rfl,rfl⟩:=h2; exact hu
   ·cases h2
  ·split at h2
   ·rename_i l hu
    simp only [Bool.and_eq_true,decide_eq_true_eq] at h2
    exact ⟨l,hu,h2.1,h2.2⟩
   ·cases h2
 ·intro ha d hd
  unfold b86 at h3
  rw [hd] at h3
  simp only [ha,Bool.false_or,Bool.and_eq_true] at h3
  obtain ⟨⟨g,_⟩,_⟩:=h3
  constructor
  ·rintro fs rfl; cases g
  ·rintro n e rfl; cases g
 ·unfold b86 at h3
  split at h3
  ·cases h3
  ·rename_i d hd; exact ⟨d,hd⟩
 ·intro hs ms hu
  unfold b86 at h3
  rw [hu] at h3
  simp only [Bool.and_eq_true] at h3
  obtain ⟨⟨_,g⟩,_⟩:=h3
  cases hy:y.sh <;> rw [hy] at g hs <;> first | exact hs | cases g
 ·intro hs
  unfold b86 at h3
  split at h3
  ·cases h3
  ·simp only [Bool.and_eq_true] at h3
   obtain ⟨_,g⟩:=h3
   cases hy:y.sh <;> rw [hy] at g hs <;> first | exact hs.elim | simpa using g
def tysB (P:Program) (T:List (Nat × Ty)):Bool:=T.all fun p=>tyB P p.1 p.2
theorem b08 {P:Program}:∀ {T:List (Nat × Ty)},tysB P T = true -> TOk P T
 | [],_,t,y,h=>by cases h
 | (s,z) :: r,hb,t,y,h=>by
  simp only [tysB,List.all_cons,Bool.and_eq_true] at hb
  simp only [V6] at h
  split at h
  ·rename_i hs
   cases h
   have:=Nat.eq_of_beq_eq_true hs
   subst this
   exact tyB_ok hb.1
  ·exact b08 hb.2 t y h
def b1I (env:Env) (l:List Nat):Bool:=l.all fun g=>match env.P.funcs[g]? with
 | none=>true
 | some fn=>!(fn.name == "runtime.NumGoroutine") && match fn.body with
  | none=>true
  | some c=>a5N env g fn.ntmps c
theorem b8q {k:Nat}:∀ {l:List Nat},has k l = true -> k ∈ l
 | [],h=>by cases h
 | a :: r,h=>by
  simp only [has] at h
  split at h
  ·rename_i hb; rw [Nat.eq_of_beq_eq_true hb]; exact List.mem_cons_self ..
  ·exact List.mem_cons_of_mem _ (b8q h)
theorem a8O {env:Env} {l:List Nat} (hok:∀ g,env.ok g = true -> has g l = true) (h:b1I env l = true):∀ g fn c,env.ok g = true -> env.P.funcs[g]? = some fn -> fn.body = some c -> a5N env g fn.ntmps c = true /\ (fn.name == "runtime.NumGoroutine") = false:=by
 intro g fn c h1 h2 h3
 rw [b1I,List.all_eq_true] at h
 have:=h g (b8q (hok g h1))
 rw [h2] at this
 simp only [h3,Bool.and_eq_true,Bool.not_eq_true'] at this
 exact ⟨this.2,this.1⟩
end Go.Vm
namespace Go.Proofs.YtlfomdllnidliaaGreatDoor.Sc
open Go Go.Vm
def T:List (Nat × Ty):=[
 (3,⟨.int .i64,1,8,[.i 0]⟩),
 (4,⟨.bool,1,1,[.bool false]⟩),
 (5,⟨.int .u8,1,1,[.int .u8 0]⟩),
 (9,⟨.string,1,16,[.str []]⟩),
 (33,⟨.slice 41,1,24,[.slice .nil 0 []]⟩),
 (34,⟨.int .i64,1,8,[.i 0]⟩),
 (36,⟨.struct [(34,0),(3,1)],2,16,[.i 0,.i 0]⟩),
 (41,⟨.struct [(3,0),(9,1),(3,2),(3,3)],4,40,[.i 0,.str [],.i 0,.i 0]⟩),
 (55,⟨.ptr 59,1,8,[.nilptr]⟩),
 (57,⟨.struct [(9,0),(3,1)],2,24,[.str [],.i 0]⟩),
 (59,⟨.struct [(57,0),(33,2),(36,3)],5,64,[.str [],.i 0,.slice .nil 0 [],.i 0,.i 0]⟩),
 (62,⟨.slice 5,1,24,[.slice .nil 0 []]⟩),
 (66,⟨.slice 9,1,24,[.slice .nil 0 []]⟩),
 (85,⟨.func,1,8,[.nilFunc]⟩),
 (96,⟨.ptr 57,1,8,[.nilptr]⟩),
 (99,⟨.array 32 9,32,512,[.str [],.str [],.str [],.str [],.str [],.str [],.str [],.str [],.str [],.str [],.str [],.str [],.str [],.str [],.str [],.str [],.str [],.str [],.str [],.str [],.str [],.str [],.str [],.str [],.str [],.str [],.str [],.str [],.str [],.str [],.str [],.str []]⟩),
 (101,⟨.array 27 9,27,432,[.str [],.str [],.str [],.str [],.str [],.str [],.str [],.str [],.str [],.str [],.str [],.str [],.str [],.str [],.str [],.str [],.str [],.str [],.str [],.str [],.str [],.str [],.str [],.str [],.str [],.str [],.str []]⟩)]
def keep:Nat -> Nat -> List Nat
 | 17,2=>[0,1,2,7]
 | 36,0=>[0]
 | 40,5=>[0,1,5,6,7,8]
 | 45,3=>[0,3,4]
 | 70,2=>[0,1,5]
 | 74,2=>[0,1,5,6]
 | _,_=>[]
def okL:List Nat:=[7,17,73,75,36,37,38,39,40,41,42,43,44,45,46,68,69,70,71,72,74]
def b1R:List Nat:=[7,73,75,41,43,68,71,72]
noncomputable def env:Env:={ P:=Tryz.prog,T:=T,keep:=keep,byref:=fun f s=>match f,s with   | _,_=>none,meth:=fun _ _=>none,tags:=fun _=>false,argTags:=fun _=>false,quiet:=fun g=>has g b1R,loose:=fun _=>false,intr:=fun _=>none,ok:=fun g=>has g okL }
theorem tys:tysB Tryz.prog T = true:=by kernel_rfl
theorem codes:b1I env okL = true:=by kernel_rfl
theorem mixed:Tryz.prog.follows .mixedOrders = true:=by kernel_rfl
theorem b49:a8l env:=by
 intro _ _ _ h
 cases h
theorem b8k:a7L env:=⟨b49,b08 tys,mixed,a8O (fun _ h=>h) codes,(fun _ _ h=>by cases h),(fun _ _ _ h=>by cases h)⟩
end Go.Proofs.YtlfomdllnidliaaGreatDoor.Sc
namespace Go.Proofs.YtlfomdllnidliaaGreatDoor.Sc
open Go Go.Vm
def b4I (n:Int):Bool:=leB 48 n && leB n 57
theorem c41I (n:Int):E env (.call 41 [.int .u8 n]) [] = some (.ret (.bool (b4I n)) []):=by
 refine a1r rfl Tryz.func41 rfl rfl ?_
 refine eSG (oB 1 rfl (eSG (oA 3 rfl ?_)))
 refine M9 rfl rfl rfl (fun h1=>?_) (fun h1=>?_)
 ·refine oB 4 rfl ?_
  exact D7 ⟨_,rfl,by show some (V.bool _,_) = some (V.bool _,_); simp [b4I, *]⟩
 ·refine oB 4 rfl ?_
  exact D7 ⟨_,rfl,by show some (V.bool _,_) = some (V.bool _,_); simp [b4I, *]⟩
def a0H (b:UInt8):Bool:=decide (48 <= b.toNat /\ b.toNat <= 57)
theorem c1i (b:UInt8):b4I (b.toNat:Nat) = a0H b:=by
 simp only [b4I,a0H,leB,eqB]; rw [Bool.eq_iff_iff]; simp; omega
theorem c41 (b:UInt8):E env (.call 41 [.int .u8 (b.toNat:Nat)]) [] = some (.ret (.bool (a0H b)) []):=by rw [<- c1i]; exact c41I _
def a6c (n:Int):Bool:=(leB 97 n && leB n 122) || (leB 65 n && leB n 90) || eqB n 95
theorem c43I (n:Int):E env (.call 43 [.int .u8 n]) [] = some (.ret (.bool (a6c n)) []):=by
 refine a1r rfl Tryz.func43 rfl rfl ?_
 refine eSG (oB 1 rfl (eSG (oA 3 rfl ?_)))
 refine M9 rfl rfl rfl (fun h1=>?_) (fun h1=>?_)
 ·refine oA 4 rfl ?_
  refine M9 rfl rfl rfl (fun h2=>?_) (fun h2=>?_)
  ·refine oB 12 rfl ?_
   exact D7 ⟨_,rfl,by show some (V.bool _,_) = some (V.bool _,_); simp [a6c, *]⟩
  ·refine oA 3 rfl ?_
   refine M9 rfl rfl rfl (fun h3=>?_) (fun h3=>?_)
   ·refine oA 5 rfl ?_
    refine M9 rfl rfl rfl (fun h4=>?_) (fun h4=>?_)
    ·refine oB 4 rfl ?_
     exact D7 ⟨_,rfl,by show some (V.bool _,_) = some (V.bool _,_); simp [a6c, *]⟩
    ·refine oB 4 rfl ?_
     exact D7 ⟨_,rfl,by show some (V.bool _,_) = some (V.bool _,_); simp [a6c, *]⟩
   ·refine oB 9 rfl ?_
    exact D7 ⟨_,rfl,by show some (V.bool _,_) = some (V.bool _,_); simp [a6c, *]⟩
 ·refine oA 7 rfl ?_
  refine M9 rfl rfl rfl (fun h5=>?_) (fun h5=>?_)
  ·refine oA 5 rfl ?_
   refine M9 rfl rfl rfl (fun h6=>?_) (fun h6=>?_)
   ·refine oB 4 rfl ?_
    exact D7 ⟨_,rfl,by show some (V.bool _,_) = some (V.bool _,_); simp [a6c, *]⟩
   ·refine oB 4 rfl ?_
    exact D7 ⟨_,rfl,by show some (V.bool _,_) = some (V.bool _,_); simp [a6c, *]⟩
  ·refine oB 9 rfl ?_
   exact D7 ⟨_,rfl,by show some (V.bool _,_) = some (V.bool _,_); simp [a6c, *]⟩
def a3D (b:UInt8):Bool:=decide ((97 <= b.toNat /\ b.toNat <= 122) ∨ (65 <= b.toNat /\ b.toNat <= 90) ∨ b.toNat = 95)
theorem b9P (b:UInt8):a6c (b.toNat:Nat) = a3D b:=by
 simp only [a6c,a3D,leB,eqB]; rw [Bool.eq_iff_iff]; simp; omega
theorem c43 (b:UInt8):E env (.call 43 [.int .u8 (b.toNat:Nat)]) [] = some (.ret (.bool (a3D b)) []):=by rw [<- b9P]; exact c43I _
def b1D (n:Int):Bool:=eqB n 9 || eqB n 10 || eqB n 13 || eqB n 32
theorem c61I (n:Int):E env (.call 68 [.int .u8 n]) [] = some (.ret (.bool (b1D n)) []):=by
 refine a1r rfl Tryz.func68 rfl rfl ?_
 refine eSG (oB 1 rfl (eSG (oA 3 rfl ?_)))
 refine M9 rfl rfl rfl (fun h1=>?_) (fun h1=>?_)
 ·refine oB 12 rfl ?_
  exact D7 ⟨_,rfl,by show some (V.bool _,_) = some (V.bool _,_); simp [b1D, *]⟩
 ·refine oA 4 rfl ?_
  refine M9 rfl rfl rfl (fun h2=>?_) (fun h2=>?_)
  ·refine oB 8 rfl ?_
   exact D7 ⟨_,rfl,by show some (V.bool _,_) = some (V.bool _,_); simp [b1D, *]⟩
  ·refine oA 4 rfl ?_
   refine M9 rfl rfl rfl (fun h3=>?_) (fun h3=>?_)
   ·refine oB 4 rfl ?_
    exact D7 ⟨_,rfl,by show some (V.bool _,_) = some (V.bool _,_); simp [b1D, *]⟩
   ·refine oB 4 rfl ?_
    exact D7 ⟨_,rfl,by show some (V.bool _,_) = some (V.bool _,_); simp [b1D, *]⟩
def a8m (b:UInt8):Bool:=decide (b.toNat = 9 ∨ b.toNat = 10 ∨ b.toNat = 13 ∨ b.toNat = 32)
theorem c1b (b:UInt8):b1D (b.toNat:Nat) = a8m b:=by
 simp only [b1D,a8m,leB,eqB]; rw [Bool.eq_iff_iff]; simp; omega
theorem c61 (b:UInt8):E env (.call 68 [.int .u8 (b.toNat:Nat)]) [] = some (.ret (.bool (a8m b)) []):=by rw [<- c1b]; exact c61I _
def nlI (n:Int):Bool:=!eqB n 10
theorem c64I (n:Int):E env (.call 71 [.int .u8 n]) [] = some (.ret (.bool (nlI n)) []):=by
 refine a1r rfl Tryz.func71 rfl rfl ?_
 refine eSG (oB 1 rfl (eSG (oB 3 rfl ?_)))
 exact D7 ⟨_,rfl,by show some (V.bool _,_) = some (V.bool _,_); simp [nlI, *]⟩
def nlB (b:UInt8):Bool:=decide (b.toNat ≠ 10)
theorem nlB_eq (b:UInt8):nlI (b.toNat:Nat) = nlB b:=by
 simp only [nlI,nlB,leB,eqB]; rw [Bool.eq_iff_iff]; simp; omega
theorem c64 (b:UInt8):E env (.call 71 [.int .u8 (b.toNat:Nat)]) [] = some (.ret (.bool (nlB b)) []):=by rw [<- nlB_eq]; exact c64I _
def a3y (b:UInt8):Bool:=a3D b || a0H b
theorem c65 (b:UInt8):E env (.call 72 [.int .u8 (b.toNat:Nat)]) [] = some (.ret (.bool (a3y b)) []):=by
 refine a1r rfl Tryz.func72 rfl rfl ?_
 refine eSG (oB 1 rfl (eSG (oA 1 rfl ?_)))
 refine a0t rfl rfl rfl rfl rfl (c43 ..) rfl ?_
 refine oA 1 rfl ?_
 refine M9 rfl rfl rfl (fun h1=>?_) (fun h1=>?_)
 ·refine oB 4 rfl ?_
  exact D7 ⟨_,rfl,by show some (V.bool _,_) = some (V.bool _,_); simp [a3y, *]⟩
 ·refine oA 1 rfl ?_
  refine a0t rfl rfl rfl rfl rfl (c41 ..) rfl ?_
  refine oB 2 rfl ?_
  exact D7 ⟨_,rfl,by show some (V.bool _,_) = some (V.bool _,_); simp [a3y, *]⟩
end Go.Proofs.YtlfomdllnidliaaGreatDoor.Sc
namespace Go.Proofs.YtlfomdllnidliaaGreatDoor.Sc
open Go Go.Vm
def scH (s:List UInt8) (i n:Nat) (tc:List V) (c a:Int) (e:Nat):Hp:=[(0,.row [.str s,.i i,.slice (.tag 1) n tc,.i c,.i a]),(1,.tip e n)]
def a14 (s:List UInt8) (j:Nat):Int:=((s.getD j 0).toNat:Nat)
section
variable (s:List UInt8) (i n:Nat) (tc:List V) (c a:Int) (e:Nat)
theorem c37:E env (.call 37 [.ptr 0 0]) (scH s i n tc c a e) = some (.ret (.bool (leB s.length i)) (scH s i n tc c a e)):=by
 refine a1r rfl Tryz.func37 rfl rfl ?_
 refine eSG (oB 1 rfl (eSG (oB 11 rfl ?_)))
 exact D7 ⟨_,rfl,rfl⟩
theorem c38 (k x:Int):E env (.call 38 [.ptr 0 0,.i k,.i x]) (scH s i n tc c a e) = some (.ret (.bool false) (scH s i n tc k x e)):=by
 refine a1r rfl Tryz.func38 rfl rfl ?_
 refine eSG (oB 1 rfl (eSG (oA 3 rfl ?_)))
 refine oD ?_
 refine oB 3 rfl (eSG (oB 1 rfl ?_))
 exact D7 ⟨_,rfl,rfl⟩
theorem c39:E env (.call 39 [.ptr 0 0]) (scH s i n tc c a e) = some (.ret (.bool (!leB 3000 n)) (match leB 3000 n with | true=>scH s i n tc 2 i e | false=>scH s i n tc c a e)):=by
 refine a1r rfl Tryz.func39 rfl rfl ?_
 refine eSG (oB 1 rfl (H8 (eSG (oB 6 rfl ?_))))
 refine a1d rfl (fun h1=>?_) (fun h1=>?_)
 ·refine eSG (oA 6 rfl ?_)
  refine oV (c38 ..) ?_
  refine oB 1 rfl ?_
  exact D7 ⟨_,rfl,by rw [h1]; rfl⟩
 ·refine E8 (eSG (oB 1 rfl ?_))
  exact D7 ⟨_,rfl,by rw [h1]; rfl⟩
theorem c62 (k:Nat) (hk:i + k < 9223372036854775808):E env (.call 69 [.ptr 0 0,.i k]) (scH s i n tc c a e) = some (.ret (.int .u8 (a14 s (i + k))) (scH s i n tc c a e)):=by
 refine a1r rfl Tryz.func69 rfl rfl ?_
 refine eSG (oB 1 rfl (H8 (eSG (oA 5 rfl ?_))))
 refine O3 rfl rfl (addN (by omega)) ?_
 refine oB 6 rfl ?_
 refine a1d rfl (fun h1=>?_) (fun h1=>?_)
 ·rw [ltN,decide_eq_true_eq] at h1
  refine eSG (oA 9 rfl ?_)
  refine O3 rfl rfl (addN (by omega)) ?_
  refine O3 rfl rfl (a8T (a5w (by omega)) rfl) ?_
  refine oB 1 rfl ?_
  exact D7 ⟨_,rfl,rfl⟩
 ·rw [ltN,decide_eq_false_iff_not] at h1
  have:a14 s (i + k) = 0:=by simp only [a14]; rw [List.getD_eq_getElem?_getD,List.getElem?_eq_none (by omega)]; rfl
  rw [this]
  refine E8 (eSG (oB 1 rfl ?_))
  exact D7 ⟨_,rfl,rfl⟩
theorem c46 (k:Int) (t:List UInt8) (f:Nat) (hf:f <= i) (hi:i < 9223372036854775808) (he:e = 0 ∨ e = 4) (hn:n <= 100000) (htc:tc.length = n * 4) :
  E env (.call 46 [.ptr 0 0,.i k,.str t,.i f]) (scH s i n tc c a e) = some (.ret (.tuple []) (scH s i (n + 1) (tc ++ [.i k,.str t,.i f,.i ((i - f:Nat):Int)]) c a 4)):=by
 refine a1r rfl Tryz.func46 rfl rfl ?_
 refine u6 (oA 14 rfl ?_)
 refine O3 rfl rfl (subN (by omega) (by omega)) ?_
 refine oD ?_
 refine oA 1 rfl ?_
 refine a6W rfl rfl rfl rfl rfl rfl rfl rfl rfl rfl rfl (a7f (a1Y rfl) rfl) rfl rfl he rfl htc.symm (by show (n + 1) * 41 <= _; omega) rfl rfl rfl ?_
 refine oB 3 rfl ?_
 exact ⟨_,rfl,rfl⟩
end
end Go.Proofs.YtlfomdllnidliaaGreatDoor.Sc
namespace Go.Proofs.YtlfomdllnidliaaGreatDoor.Sc
open Go Go.Vm
def a1G (p:UInt8 -> Bool) (s:List UInt8) (i:Nat):Nat:=i + ((s.drop i).takeWhile p).length
theorem a5U {s:List UInt8} {i:Nat} (h:i < s.length):s.drop i = s.getD i 0 :: s.drop (i + 1):=by
 rw [List.drop_eq_getElem_cons h]; simp [h]
theorem runE_end {p:UInt8 -> Bool} {s:List UInt8} {i:Nat} (h:s.length <= i):a1G p s i = i:=by simp [a1G,List.drop_eq_nil_of_le h]
theorem runE_no {p:UInt8 -> Bool} {s:List UInt8} {i:Nat} (h:i < s.length) (hp:p (s.getD i 0) = false):a1G p s i = i:=by
 simp only [a1G,a5U h,List.takeWhile_cons,hp]; rfl
theorem b5C {p:UInt8 -> Bool} {s:List UInt8} {i:Nat} (h:i < s.length) (hp:p (s.getD i 0) = true):a1G p s i = a1G p s (i + 1):=by
 simp only [a1G,a5U h,List.takeWhile_cons,hp,if_true,List.length_cons]; omega
theorem a8g {p:UInt8 -> Bool} {s:List UInt8} {i:Nat} (h:i <= s.length):a1G p s i <= s.length:=by
 have h1:=List.takeWhile_sublist p (l:=s.drop i)
 have:=h1.length_le
 simp only [a1G,List.length_drop] at this ⊢; omega
theorem b7X {p:UInt8 -> Bool} {s:List UInt8} {i:Nat}:i <= a1G p s i:=by simp only [a1G]; omega
section
variable (s:List UInt8) (i n:Nat) (tc:List V) (c a:Int) (e:Nat)
theorem c63 (g:Nat) (p:UInt8 -> Bool) (hq:env.quiet g = true) (hp:∀ b:UInt8,E env (.call g [.int .u8 (b.toNat:Nat)]) [] = some (.ret (.bool (p b)) [])) (hi:i <= s.length) (hs:s.length < 4611686018427387904) :
  E env (.call 70 [.ptr 0 0,.func (.func g) [] []]) (scH s i n tc c a e) = some (.ret (.str ((s.take (a1G p s i)).drop i)) (scH s (a1G p s i) n tc c a e)):=by
 obtain ⟨r,hr⟩:∃ r,r = a1G p s i:=⟨_,rfl⟩
 rw [<- hr]
 refine a1r rfl Tryz.func70 rfl rfl ?_
 refine eSG (oB 1 rfl (eSG (oB 5 rfl (H8 ?_))))
 refine F9 ?_
 refine Y1 rfl ?_
 refine b1K (fun _=>[(0,.ptr 0 0),(1,.func (.func g) [] []),(5,.i i)]) (fun j=>scH s j n tc c a e) (fun j=>i <= j /\ j <= s.length /\ r = a1G p s j) (fun j=>s.length - j) i ⟨Nat.le_refl _,hi,hr⟩ ?_
 intro j ⟨hij,hj,hr⟩ ih
 refine H8 (eSG (oA 1 rfl ?_))
 refine oV (c37 ..) ?_
 refine oA 2 rfl ?_
 refine M9 rfl rfl rfl (fun h1=>?_) (fun h1=>?_)
 ·replace h1:j < s.length:=by simpa [leN_] using h1
  refine oA 9 rfl ?_
  refine O3 rfl rfl (a8T (a5w (by omega)) rfl) ?_
  refine c1w rfl rfl rfl hq rfl rfl (hp _) rfl ?_
  refine oB 1 rfl ?_
  refine a1d rfl (fun h2=>?_) (fun h2=>?_)
  ·refine E8 ?_
   refine F9 ?_
   refine u6 (oA 4 rfl ?_)
   refine O3 rfl rfl (add1 (by omega)) ?_
   refine oB 3 rfl ?_
   exact ⟨_,_,rfl,ih (j + 1) (by omega) ⟨by omega,by omega,by rw [hr,b5C h1 h2]⟩⟩
  ·rw [runE_no h1 h2] at hr
   subst hr
   refine V7 ?_
   refine eSG (oA 9 rfl ?_)
   refine O3 rfl rfl (a8T (b22 (by omega) (by omega)) rfl) ?_
   refine oB 1 rfl ?_
   exact D7 ⟨_,rfl,rfl⟩
 ·replace h1:s.length <= j:=by simpa [leN_] using h1
  rw [runE_end h1] at hr
  subst hr
  refine oB 12 rfl ?_
  refine a2a rfl rfl ?_
  refine V7 ?_
  refine eSG (oA 9 rfl ?_)
  refine O3 rfl rfl (a8T (b22 (by omega) (by omega)) rfl) ?_
  refine oB 1 rfl ?_
  exact D7 ⟨_,rfl,rfl⟩
end
end Go.Proofs.YtlfomdllnidliaaGreatDoor.Sc
namespace Go.Proofs.YtlfomdllnidliaaGreatDoor.Sc
open Go Go.Vm
def a6E:Bool -> List UInt8 -> Nat
 | _,[]=>0
 | true,b :: r=>a6E (nlB b) r + 1
 | false,b :: r=>match a8m b with
  | true=>a6E false r + 1
  | false=>match decide (b.toNat = 47) && decide ((r.headD 0).toNat = 47) with
   | true=>a6E true r + 1
   | false=>0
def a1C (s:List UInt8) (i:Nat):Nat:=i + a6E false (s.drop i)
theorem b4P (s:List UInt8) (i:Nat):(s.drop i).headD 0 = s.getD i 0:=by
 rcases Nat.lt_or_ge i s.length with h | h
 ·rw [a5U h]; rfl
 ·rw [List.drop_eq_nil_of_le h,List.getD_eq_getElem?_getD,List.getElem?_eq_none h]; rfl
theorem c1Q {s:List UInt8} {i:Nat} (h:s.length <= i):a1C s i = i:=by simp [a1C,List.drop_eq_nil_of_le h,a6E]
theorem b89 {s:List UInt8} {i:Nat} (h:i < s.length) (hb:a8m (s.getD i 0) = true):a1C s i = a1C s (i + 1):=by
 simp only [a1C,a5U h,a6E,hb]; omega
theorem b9b {s:List UInt8} {i:Nat} (h:i < s.length) (hb:a8m (s.getD i 0) = false) (hc:(s.getD i 0).toNat ≠ 47 ∨ (s.getD (i + 1) 0).toNat ≠ 47):a1C s i = i:=by
 have:(decide ((s.getD i 0).toNat = 47) && decide (((s.drop (i + 1)).headD 0).toNat = 47)) = false:=by
  rw [b4P,Bool.and_eq_false_iff,decide_eq_false_iff_not,decide_eq_false_iff_not]; exact hc
 simp only [a1C,a5U h,a6E,hb,this]; rfl
theorem b5K:∀ l:List UInt8,a6E true l = (l.takeWhile nlB).length + a6E false (l.drop (l.takeWhile nlB).length)
 | []=>rfl
 | b :: r=>by
  cases hb:nlB b with
  | true =>
   simp only [a6E,hb,List.takeWhile_cons,if_true,List.length_cons,List.drop_succ_cons]
   rw [b5K r]; omega
  | false =>
   have h2:a8m b = true:=by simp only [nlB,a8m,decide_eq_false_iff_not,decide_eq_true_eq] at hb ⊢; omega
   simp only [a6E,hb,h2,List.takeWhile_cons,Bool.false_eq_true,if_false,List.length_nil,List.drop_zero]; omega
theorem c1P {s:List UInt8} {i:Nat} (h:i < s.length) (h1:(s.getD i 0).toNat = 47) (h2:(s.getD (i + 1) 0).toNat = 47):a1C s i = a1C s (a1G nlB s i):=by
 have hb:a8m (s.getD i 0) = false:=by simp only [a8m,decide_eq_false_iff_not]; omega
 have hn:nlB (s.getD i 0) = true:=by simp only [nlB,decide_eq_true_eq]; omega
 have hc:(decide ((s.getD i 0).toNat = 47) && decide (((s.drop (i + 1)).headD 0).toNat = 47)) = true:=by rw [b4P,h1,h2]; rfl
 rw [b5C h hn]
 simp only [a1C,a5U h,a6E,hb,hc,b5K,a1G,List.drop_drop]; omega
theorem b05 {p:UInt8 -> Bool} {s:List UInt8} {i:Nat} (h:i < s.length) (hp:p (s.getD i 0) = true):i < a1G p s i:=by
 rw [b5C h hp]; have:=b7X (p:=p) (s:=s) (i:=i + 1); omega
section
variable (s:List UInt8) (i n:Nat) (tc:List V) (c a:Int) (e:Nat)
theorem c36 (hi:i <= s.length) (hs:s.length < 4611686018427387904):E env (.call 36 [.ptr 0 0]) (scH s i n tc c a e) = some (.ret (.tuple []) (scH s (a1C s i) n tc c a e)):=by
 obtain ⟨r,hr⟩:∃ r,r = a1C s i:=⟨_,rfl⟩
 rw [<- hr]
 refine a1r rfl Tryz.func36 rfl rfl ?_
 refine F9 ?_
 refine Y1 rfl ?_
 refine b1K (fun _=>[(0,.ptr 0 0)]) (fun j=>scH s j n tc c a e) (fun j=>j <= s.length /\ r = a1C s j) (fun j=>s.length - j) i ⟨hi,hr⟩ ?_
 intro j ⟨hj,hr⟩ ih
 refine H8 (eSG (oA 1 rfl ?_))
 refine oV (c37 ..) ?_
 refine oB 1 rfl ?_
 refine a1d rfl (fun h1=>?_) (fun h1=>?_)
 ·replace h1:j < s.length:=by simpa [leN_] using h1
  refine E8 ?_
  refine F9 ?_
  refine F9 ?_
  refine eSG (oA 8 rfl ?_)
  refine O3 rfl rfl (a8T (a5w (by omega)) rfl) ?_
  refine a0t rfl rfl rfl rfl rfl (c61 ..) rfl ?_
  refine oB 1 rfl ?_
  refine a1d rfl (fun h2=>?_) (fun h2=>?_)
  ·refine u6 (oA 4 rfl ?_)
   refine O3 rfl rfl (add1 (by omega)) ?_
   refine oB 3 rfl ?_
   exact ⟨_,_,rfl,ih (j + 1) (by omega) ⟨by omega,by rw [hr,b89 h1 h2]⟩⟩
  ·refine eSG (oA 8 rfl ?_)
   refine O3 rfl rfl (a8T (a5w (by omega)) rfl) ?_
   refine oA 2 rfl ?_
   refine M9 rfl rfl rfl (fun h3=>?_) (fun h3=>?_)
   ·simp only [eqB,a14,beq_iff_eq,beq_eq_false_iff_ne,ne_eq,Int.toNat_natCast] at h3
    refine oA 1 rfl ?_
    refine oV (c62 s j n tc c a e 1 (by omega)) ?_
    refine oB 3 rfl ?_
    refine a1d rfl (fun h4=>?_) (fun h4=>?_)
    ·simp only [eqB,a14,beq_iff_eq,beq_eq_false_iff_ne,ne_eq,Int.toNat_natCast] at h4
     refine u6 (oA 1 rfl ?_)
     refine oV (c63 s j n tc c a e 71 nlB rfl c64 hj hs) ?_
     refine D5 ?_
     exact ⟨_,_,rfl,ih (a1G nlB s j) (by have:=b05 (p:=nlB) h1 (by simp only [nlB,decide_eq_true_eq]; omega); omega) ⟨a8g hj,by rw [hr,c1P h1 (by omega) (by omega)]⟩⟩
    ·simp only [eqB,a14,beq_iff_eq,beq_eq_false_iff_ne,ne_eq,Int.toNat_natCast] at h4
     rw [b9b h1 h2 (.inr (by omega))] at hr
     subst hr
     exact D7 ⟨_,rfl,rfl⟩
   ·simp only [eqB,a14,beq_iff_eq,beq_eq_false_iff_ne,ne_eq,Int.toNat_natCast] at h3
    rw [b9b h1 h2 (.inl (by omega))] at hr
    subst hr
    refine oB 5 rfl ?_
    refine a2a rfl rfl ?_
    exact D7 ⟨_,rfl,rfl⟩
 ·replace h1:s.length <= j:=by simpa [leN_] using h1
  rw [c1Q h1] at hr
  subst hr
  refine V7 ?_
  exact ⟨_,rfl,rfl⟩
end
end Go.Proofs.YtlfomdllnidliaaGreatDoor.Sc
namespace Go.Proofs.YtlfomdllnidliaaGreatDoor.Sc
open Go Go.Vm
def a4l:List UInt8:=[57,50,50,51,51,55,50,48,51,54,56,53,52,55,55,53,56,48,55]
def a1V (w:List UInt8) (nx:UInt8):Bool:=(ltB 1 w.length && eqB (w.getD 0 0).toNat 48) || ltB 19 w.length || (eqB w.length 19 && !(ltS w a4l || eqS w a4l)) || a3D nx
def b1Y (k:Int) (w:List UInt8) (i l:Nat):List V:=[.i k,.str w,.i i,.i l]
section
variable (s:List UInt8) (i n:Nat) (tc:List V) (c a:Int) (e:Nat)
theorem c42 (hi:i <= s.length) (hs:s.length < 4611686018427387904) (he:e = 0 ∨ e = 4) (hn:n <= 100000) (htc:tc.length = n * 4) (r:Nat) (hr:a1G a0H s i = r) (w:List UInt8) (hw:(s.take r).drop i = w) (b:Bool) (hb:a1V w (s.getD r 0) = b) :
  E env (.call 42 [.ptr 0 0]) (scH s i n tc c a e) = some (.ret (.bool (!b)) (match b with | true=>scH s r n tc 13 i e | false=>scH s r (n + 1) (tc ++ b1Y 3 w i (r - i)) c a 4)):=by
 have h63:=c63 s i n tc c a e 41 a0H rfl c41 hi hs
 rw [hr,hw] at h63
 have hri:i <= r:=by rw [<- hr]; exact b7X
 have hrl:r <= s.length:=by rw [<- hr]; exact a8g hi
 refine a1r rfl Tryz.func42 rfl rfl ?_
 refine eSG (oB 1 rfl (eSG (oB 6 rfl (eSG (oA 3 rfl ?_)))))
 refine b0Y rfl rfl rfl (b1E rfl rfl h63 rfl rfl rfl) ?_
 refine oB 1 rfl (H8 (eSG (oA 4 rfl ?_)))
 refine M9 rfl rfl rfl (fun h1=>?_) (fun h1=>?_)
 ·refine oA 1 rfl ?_
  refine O3 rfl rfl (a8T (a5w (i:=0) (by simp only [ltB,decide_eq_true_eq] at h1; omega)) rfl) ?_
  refine oA 3 rfl ?_
  refine M9 rfl rfl rfl (fun h2=>?_) (fun h2=>?_)
  ·refine oB 20 rfl ?_
   refine a1w rfl rfl ?_
   refine eSG (oA 2 rfl ?_)
   refine oV (c38 ..) ?_
   refine oB 1 rfl ?_
   obtain rfl:b = true:=by rw [<- hb]; clear hb h63; (try simp only [Int.toNat_zero,Nat.add_zero] at *); simp only [*,a1V,a4l,Bool.and_true,Bool.true_and,Bool.and_false,Bool.false_and,Bool.or_true,Bool.true_or,Bool.or_false,Bool.false_or,Bool.not_true,Bool.not_false]
   exact D7 ⟨_,rfl,rfl⟩
  ·refine oA 5 rfl ?_
   refine M9 rfl rfl rfl (fun h3=>?_) (fun h3=>?_)
   ·refine oB 15 rfl ?_
    refine a1w rfl rfl ?_
    refine eSG (oA 2 rfl ?_)
    refine oV (c38 ..) ?_
    refine oB 1 rfl ?_
    obtain rfl:b = true:=by rw [<- hb]; clear hb h63; (try simp only [Int.toNat_zero,Nat.add_zero] at *); simp only [*,a1V,a4l,Bool.and_true,Bool.true_and,Bool.and_false,Bool.false_and,Bool.or_true,Bool.true_or,Bool.or_false,Bool.false_or,Bool.not_true,Bool.not_false]
    exact D7 ⟨_,rfl,rfl⟩
   ·refine oA 4 rfl ?_
    refine M9 rfl rfl rfl (fun h4=>?_) (fun h4=>?_)
    ·refine oA 5 rfl ?_
     refine M9 rfl rfl rfl (fun h5=>?_) (fun h5=>?_)
     ·refine oB 6 rfl ?_
      refine a1w rfl rfl ?_
      refine eSG (oA 2 rfl ?_)
      refine oV (c38 ..) ?_
      refine oB 1 rfl ?_
      obtain rfl:b = true:=by rw [<- hb]; clear hb h63; (try simp only [Int.toNat_zero,Nat.add_zero] at *); simp only [*,a1V,a4l,Bool.and_true,Bool.true_and,Bool.and_false,Bool.false_and,Bool.or_true,Bool.true_or,Bool.or_false,Bool.false_or,Bool.not_true,Bool.not_false]
      exact D7 ⟨_,rfl,rfl⟩
     ·refine oA 3 rfl ?_
      refine oV (c62 s r n tc c a e 0 (by omega)) ?_
      refine a0t rfl rfl rfl rfl rfl (c43 ..) rfl ?_
      refine oB 1 rfl ?_
      refine a1d rfl (fun h6=>?_) (fun h6=>?_)
      ·refine eSG (oA 2 rfl ?_)
       refine oV (c38 ..) ?_
       refine oB 1 rfl ?_
       obtain rfl:b = true:=by rw [<- hb]; clear hb h63; (try simp only [Int.toNat_zero,Nat.add_zero] at *); simp only [*,a1V,a4l,Bool.and_true,Bool.true_and,Bool.and_false,Bool.false_and,Bool.or_true,Bool.true_or,Bool.or_false,Bool.false_or,Bool.not_true,Bool.not_false]
       exact D7 ⟨_,rfl,rfl⟩
      ·refine E8 (eSG (oA 3 rfl ?_))
       refine oV (c46 s r n tc c a e 3 w i hri (by omega) he hn htc) ?_
       refine D5 (eSG (oB 1 rfl ?_))
       obtain rfl:b = false:=by rw [<- hb]; clear hb h63; (try simp only [Int.toNat_zero,Nat.add_zero] at *); simp only [*,a1V,a4l,Bool.and_true,Bool.true_and,Bool.and_false,Bool.false_and,Bool.or_true,Bool.true_or,Bool.or_false,Bool.false_or,Bool.not_true,Bool.not_false]
       exact D7 ⟨_,rfl,rfl⟩
    ·refine oA 8 rfl ?_
     refine oV (c62 s r n tc c a e 0 (by omega)) ?_
     refine a0t rfl rfl rfl rfl rfl (c43 ..) rfl ?_
     refine oB 1 rfl ?_
     refine a1d rfl (fun h7=>?_) (fun h7=>?_)
     ·refine eSG (oA 2 rfl ?_)
      refine oV (c38 ..) ?_
      refine oB 1 rfl ?_
      obtain rfl:b = true:=by rw [<- hb]; clear hb h63; (try simp only [Int.toNat_zero,Nat.add_zero] at *); simp only [*,a1V,a4l,Bool.and_true,Bool.true_and,Bool.and_false,Bool.false_and,Bool.or_true,Bool.true_or,Bool.or_false,Bool.false_or,Bool.not_true,Bool.not_false]
      exact D7 ⟨_,rfl,rfl⟩
     ·refine E8 (eSG (oA 3 rfl ?_))
      refine oV (c46 s r n tc c a e 3 w i hri (by omega) he hn htc) ?_
      refine D5 (eSG (oB 1 rfl ?_))
      obtain rfl:b = false:=by rw [<- hb]; clear hb h63; (try simp only [Int.toNat_zero,Nat.add_zero] at *); simp only [*,a1V,a4l,Bool.and_true,Bool.true_and,Bool.and_false,Bool.false_and,Bool.or_true,Bool.true_or,Bool.or_false,Bool.false_or,Bool.not_true,Bool.not_false]
      exact D7 ⟨_,rfl,rfl⟩
 ·refine oA 10 rfl ?_
  refine M9 rfl rfl rfl (fun h8=>?_) (fun h8=>?_)
  ·refine oB 15 rfl ?_
   refine a1w rfl rfl ?_
   refine eSG (oA 2 rfl ?_)
   refine oV (c38 ..) ?_
   refine oB 1 rfl ?_
   obtain rfl:b = true:=by rw [<- hb]; clear hb h63; (try simp only [Int.toNat_zero,Nat.add_zero] at *); simp only [*,a1V,a4l,Bool.and_true,Bool.true_and,Bool.and_false,Bool.false_and,Bool.or_true,Bool.true_or,Bool.or_false,Bool.false_or,Bool.not_true,Bool.not_false]
   exact D7 ⟨_,rfl,rfl⟩
  ·refine oA 4 rfl ?_
   refine M9 rfl rfl rfl (fun h9=>?_) (fun h9=>?_)
   ·refine oA 5 rfl ?_
    refine M9 rfl rfl rfl (fun h10=>?_) (fun h10=>?_)
    ·refine oB 6 rfl ?_
     refine a1w rfl rfl ?_
     refine eSG (oA 2 rfl ?_)
     refine oV (c38 ..) ?_
     refine oB 1 rfl ?_
     obtain rfl:b = true:=by rw [<- hb]; clear hb h63; (try simp only [Int.toNat_zero,Nat.add_zero] at *); simp only [*,a1V,a4l,Bool.and_true,Bool.true_and,Bool.and_false,Bool.false_and,Bool.or_true,Bool.true_or,Bool.or_false,Bool.false_or,Bool.not_true,Bool.not_false]
     exact D7 ⟨_,rfl,rfl⟩
    ·refine oA 3 rfl ?_
     refine oV (c62 s r n tc c a e 0 (by omega)) ?_
     refine a0t rfl rfl rfl rfl rfl (c43 ..) rfl ?_
     refine oB 1 rfl ?_
     refine a1d rfl (fun h11=>?_) (fun h11=>?_)
     ·refine eSG (oA 2 rfl ?_)
      refine oV (c38 ..) ?_
      refine oB 1 rfl ?_
      obtain rfl:b = true:=by rw [<- hb]; clear hb h63; (try simp only [Int.toNat_zero,Nat.add_zero] at *); simp only [*,a1V,a4l,Bool.and_true,Bool.true_and,Bool.and_false,Bool.false_and,Bool.or_true,Bool.true_or,Bool.or_false,Bool.false_or,Bool.not_true,Bool.not_false]
      exact D7 ⟨_,rfl,rfl⟩
     ·refine E8 (eSG (oA 3 rfl ?_))
      refine oV (c46 s r n tc c a e 3 w i hri (by omega) he hn htc) ?_
      refine D5 (eSG (oB 1 rfl ?_))
      obtain rfl:b = false:=by rw [<- hb]; clear hb h63; (try simp only [Int.toNat_zero,Nat.add_zero] at *); simp only [*,a1V,a4l,Bool.and_true,Bool.true_and,Bool.and_false,Bool.false_and,Bool.or_true,Bool.true_or,Bool.or_false,Bool.false_or,Bool.not_true,Bool.not_false]
      exact D7 ⟨_,rfl,rfl⟩
   ·refine oA 8 rfl ?_
    refine oV (c62 s r n tc c a e 0 (by omega)) ?_
    refine a0t rfl rfl rfl rfl rfl (c43 ..) rfl ?_
    refine oB 1 rfl ?_
    refine a1d rfl (fun h12=>?_) (fun h12=>?_)
    ·refine eSG (oA 2 rfl ?_)
     refine oV (c38 ..) ?_
     refine oB 1 rfl ?_
     obtain rfl:b = true:=by rw [<- hb]; clear hb h63; (try simp only [Int.toNat_zero,Nat.add_zero] at *); simp only [*,a1V,a4l,Bool.and_true,Bool.true_and,Bool.and_false,Bool.false_and,Bool.or_true,Bool.true_or,Bool.or_false,Bool.false_or,Bool.not_true,Bool.not_false]
     exact D7 ⟨_,rfl,rfl⟩
    ·refine E8 (eSG (oA 3 rfl ?_))
     refine oV (c46 s r n tc c a e 3 w i hri (by omega) he hn htc) ?_
     refine D5 (eSG (oB 1 rfl ?_))
     obtain rfl:b = false:=by rw [<- hb]; clear hb h63; (try simp only [Int.toNat_zero,Nat.add_zero] at *); simp only [*,a1V,a4l,Bool.and_true,Bool.true_and,Bool.and_false,Bool.false_and,Bool.or_true,Bool.true_or,Bool.or_false,Bool.false_or,Bool.not_true,Bool.not_false]
     exact D7 ⟨_,rfl,rfl⟩
end
end Go.Proofs.YtlfomdllnidliaaGreatDoor.Sc
namespace Go.Proofs.YtlfomdllnidliaaGreatDoor.Sc
open Go Go.Vm
theorem b4k:∀ a:List UInt8,ltS a a = false:=by
 unfold ltS
 intro a
 induction a with
 | nil=>rfl
 | cons x a ih=>simp [Op.bytesLess,ih]
theorem c0P:∀ {a b:List UInt8},ltS a b = false -> a ≠ b -> ltS b a = true:=by
 unfold ltS
 intro a
 induction a with
 | nil =>
  intro b h hne
  cases b with
  | nil=>exact absurd rfl hne
  | cons y b=>cases h
 | cons x a ih =>
  intro b h hne
  cases b with
  | nil=>rfl
  | cons y b =>
   simp only [Op.bytesLess,Bool.or_eq_false_iff,Bool.and_eq_false_iff,decide_eq_false_iff_not,Bool.or_eq_true,Bool.and_eq_true,decide_eq_true_eq,beq_iff_eq,beq_eq_false_iff_ne] at h ⊢
   obtain ⟨h1,h2⟩:=h
   by_cases hxy:x = y
   ·subst hxy
    refine .inr ⟨rfl,ih ?_ (fun e=>hne (by rw [e]))⟩
    rcases h2 with h2 | h2
    ·exact absurd rfl h2
    ·exact h2
   ·refine .inl ?_
    rw [UInt8.lt_iff_toNat_lt] at h1 ⊢
    have:x.toNat ≠ y.toNat:=fun e=>hxy (UInt8.toNat_inj.1 e)
    omega
theorem b0W:∀ {a b c:List UInt8},ltS a b = true -> ltS b c = true -> ltS a c = true:=by
 unfold ltS
 intro a
 induction a with
 | nil =>
  intro b c h g
  cases c with
  | nil=>cases b <;> cases g
  | cons z c=>rfl
 | cons x a ih =>
  intro b c h g
  cases b with
  | nil=>cases h
  | cons y b =>
   cases c with
   | nil=>cases g
   | cons z c =>
    simp only [Op.bytesLess,Bool.or_eq_true,Bool.and_eq_true,decide_eq_true_eq,beq_iff_eq] at h g ⊢
    rw [UInt8.lt_iff_toNat_lt] at *
    rcases h with h | ⟨rfl,h⟩ <;> rcases g with g | ⟨rfl,g⟩
    ·exact .inl (by omega)
    ·exact .inl h
    ·exact .inl g
    ·exact .inr ⟨rfl,ih h g⟩
def b2L:List (List UInt8) -> Bool
 | []=>true
 | a :: r=>r.all (fun b=>ltS a b) && b2L r
theorem a7v:∀ {l:List (List UInt8)},b2L l = true -> ∀ i j,i < j -> j < l.length -> ltS (l.getD i []) (l.getD j []) = true
 | [],_,i,j,_,hj=>by simp at hj
 | a :: r,h,i,j,hij,hj=>by
  simp only [b2L,Bool.and_eq_true,List.all_eq_true] at h
  cases j with
  | zero=>omega
  | succ j =>
   have hj':j < r.length:=by simpa using hj
   cases i with
   | zero =>
    have:(a :: r).getD (j + 1) [] = r[j]:=by simp [hj']
    rw [this]
    exact h.1 _ (List.getElem_mem hj')
   | succ i =>
    have:=a7v h.2 i j (by omega) hj'
    simpa using this
def hasL (l:List (List UInt8)) (x:List UInt8):Bool:=l.any fun y=>decide (y = x)
theorem c0E {l:List (List UInt8)} {x:List UInt8} {i:Nat} (hi:i < l.length) (h:eqS (l.getD i []) x = true):hasL l x = true:=by
 simp only [eqS,beq_iff_eq] at h
 simp only [hasL,List.any_eq_true,decide_eq_true_eq]
 refine ⟨l[i],List.getElem_mem hi,?_⟩
 simpa [hi] using h
theorem c0D {l:List (List UInt8)} {x:List UInt8} (h:∀ i,i < l.length -> l.getD i [] ≠ x):hasL l x = false:=by
 simp only [hasL,List.any_eq_false,decide_eq_true_eq]
 intro y hy
 obtain ⟨i,hi,rfl⟩:=List.mem_iff_getElem.1 hy
 have:=h i hi
 simpa [hi] using this
theorem ld9 {l:List (List UInt8)} {i:Nat} (h:i < l.length):a4f env.T 9 (.ptr 0 (0 + (i:Int).toNat * 1)) [(0,.row (l.map V.str))] = some (.str (l.getD i [])):=by
 show (l.map V.str)[0 + (i:Int).toNat * 1]? = _
 simp [h]
def a3X:List (List UInt8):=[[97,110,121],[99,97,115,101],[99,97,116,99,104],[99,108,97,115,115],[99,111,110,115,117,109,101],[100,101,102,97,117,108,116],[100,101,102,101,114],[100,101,105,110,105,116],[100,111],[101,108,115,101],[101,110,117,109],[101,120,116,101,110,100],[102,97,108,115,101],[102,114,111,122,101,110],[102,117,110,99],[105,102],[105,110],[105,110,100,105,114,101,99,116],[105,110,111,117,116],[108,101,116],[109,97,116,99,104],[109,111,118,101,111,110,108,121],[112,114,111,116,111,99,111,108],[114,101,116,117,114,110],[115,116,114,117,99,116],[116,104,114,111,119],[116,104,114,111,119,115],[116,114,117,101],[116,121,112,101],[118,97,114],[119,104,101,114,101],[119,104,105,108,101]]
def a3M:List (List UInt8):=[[33],[33,61],[37],[38],[38,38],[40],[41],[42],[43],[44],[45],[45,62],[46],[47],[58],[59],[60],[60,61],[61],[61,61],[62],[62,61],[91],[93],[123],[124,124],[125]]
theorem b1w:b2L a3X = true:=by kernel_rfl
theorem c66w (x:List UInt8) (r:Bool) (hr:hasL a3X x = r) :
  E env (.call 74 [.rslice 0 0 32 false,.str x]) [(0,.row (a3X.map V.str))] = some (.ret (.bool r) [(0,.row (a3X.map V.str))]):=by
 refine a1r rfl Tryz.func74 rfl rfl ?_
 refine eSG (oB 1 rfl (eSG (oB 4 rfl (H8 ?_))))
 refine F9 ?_
 refine Y1 rfl ?_
 refine b1K (fun p:Nat × Nat=>[(0,.rslice 0 0 32 false),(1,.str x),(5,.i p.1),(6,.i p.2)]) (fun _=>[(0,.row (a3X.map V.str))]) (fun p=>p.1 <= p.2 /\ p.2 <= 32 /\ (∀ k,k < p.1 -> ltS (a3X.getD k []) x = true) /\ ∀ k,p.2 <= k -> k < 32 -> ltS x (a3X.getD k []) = true) (fun p=>p.2 - p.1) (0,32) ⟨Nat.zero_le _,Nat.le_refl _,fun k hk=>by omega,fun k h1 h2=>by omega⟩ ?_
 intro ⟨lo,hi⟩ ⟨hlo,hhi,hL,hR⟩ ih
 simp only at hlo hhi hL hR
 refine H8 (eSG (oB 3 rfl ?_))
 refine a1d rfl (fun h1=>?_) (fun h1=>?_)
 ·replace h1:lo < hi:=by simpa [ltN] using h1
  refine E8 ?_
  refine F9 ?_
  refine eSG (oA 2 rfl ?_)
  refine O3 rfl rfl (addN (by omega)) ?_
  refine O3 rfl rfl (half (by omega)) ?_
  refine oB 1 rfl ?_
  refine F9 ?_
  refine eSG (oA 2 rfl ?_)
  refine O3 rfl rfl (a8T (a5w (by omega)) rfl) ?_
  refine b2y rfl rfl rfl (ld9 (l:=a3X) (by show _ < 32; omega)) ?_
  refine oB 3 rfl ?_
  refine a1d rfl (fun h2=>?_) (fun h2=>?_)
  ·obtain rfl:r = true:=by rw [<- hr]; exact c0E (l:=a3X) (by show _ < 32; omega) h2
   refine eSG (oB 1 rfl ?_)
   exact D7 ⟨_,rfl,rfl⟩
  ·have hne:a3X.getD ((lo + hi) / 2) [] ≠ x:=fun e=>by simp only [eqS,e,beq_self_eq_true] at h2; cases h2
   refine eSG (oA 2 rfl ?_)
   refine O3 rfl rfl (a8T (a5w (by omega)) rfl) ?_
   refine b2y rfl rfl rfl (ld9 (l:=a3X) (by show _ < 32; omega)) ?_
   refine oB 3 rfl ?_
   refine a1d rfl (fun h3=>?_) (fun h3=>?_)
   ·have hL2:∀ k,k < (lo + hi) / 2 + 1 -> ltS (a3X.getD k []) x = true:=fun k hk=>by
     rcases Nat.lt_or_ge k ((lo + hi) / 2) with h | h
     ·exact b0W (a7v (l:=a3X) b1w _ _ h (by show _ < 32; omega)) h3
     ·obtain rfl:k = (lo + hi) / 2:=by omega
      exact h3
    refine u6 (oA 1 rfl ?_)
    refine O3 rfl rfl (add1 (by omega)) ?_
    refine oB 1 rfl ?_
    exact ⟨_,_,rfl,ih ((lo + hi) / 2 + 1,hi) (by show hi - ((lo + hi) / 2 + 1) < hi - lo; omega) ⟨by show (lo + hi) / 2 + 1 <= hi; omega,hhi,hL2,hR⟩⟩
   ·have hR2:∀ k,(lo + hi) / 2 <= k -> k < 32 -> ltS x (a3X.getD k []) = true:=fun k hk hk2=>by
     have h4:=c0P h3 hne
     rcases Nat.lt_or_ge ((lo + hi) / 2) k with h | h
     ·exact b0W h4 (a7v (l:=a3X) b1w _ _ h (by exact hk2))
     ·obtain rfl:k = (lo + hi) / 2:=by omega
      exact h4
    refine u6 (oB 2 rfl ?_)
    exact ⟨_,_,rfl,ih (lo,(lo + hi) / 2) (by show (lo + hi) / 2 - lo < hi - lo; omega) ⟨by show lo <= (lo + hi) / 2; omega,by show (lo + hi) / 2 <= 32; omega,hL,hR2⟩⟩
 ·replace h1:¬ lo < hi:=by simpa [ltN] using h1
  obtain rfl:r = false:=by
   rw [<- hr]
   refine c0D (l:=a3X) fun k hk e=>?_
   rcases Nat.lt_or_ge k lo with h | h
   ·have:=hL k h; rw [e,b4k] at this; cases this
   ·have:=hR k (by omega) (by exact hk); rw [e,b4k] at this; cases this
  refine V7 ?_
  refine eSG (oB 1 rfl ?_)
  exact D7 ⟨_,rfl,rfl⟩
theorem b1v:b2L a3M = true:=by kernel_rfl
theorem c66s (x:List UInt8) (r:Bool) (hr:hasL a3M x = r) :
  E env (.call 74 [.rslice 0 0 27 false,.str x]) [(0,.row (a3M.map V.str))] = some (.ret (.bool r) [(0,.row (a3M.map V.str))]):=by
 refine a1r rfl Tryz.func74 rfl rfl ?_
 refine eSG (oB 1 rfl (eSG (oB 4 rfl (H8 ?_))))
 refine F9 ?_
 refine Y1 rfl ?_
 refine b1K (fun p:Nat × Nat=>[(0,.rslice 0 0 27 false),(1,.str x),(5,.i p.1),(6,.i p.2)]) (fun _=>[(0,.row (a3M.map V.str))]) (fun p=>p.1 <= p.2 /\ p.2 <= 27 /\ (∀ k,k < p.1 -> ltS (a3M.getD k []) x = true) /\ ∀ k,p.2 <= k -> k < 27 -> ltS x (a3M.getD k []) = true) (fun p=>p.2 - p.1) (0,27) ⟨Nat.zero_le _,Nat.le_refl _,fun k hk=>by omega,fun k h1 h2=>by omega⟩ ?_
 intro ⟨lo,hi⟩ ⟨hlo,hhi,hL,hR⟩ ih
 simp only at hlo hhi hL hR
 refine H8 (eSG (oB 3 rfl ?_))
 refine a1d rfl (fun h1=>?_) (fun h1=>?_)
 ·replace h1:lo < hi:=by simpa [ltN] using h1
  refine E8 ?_
  refine F9 ?_
  refine eSG (oA 2 rfl ?_)
  refine O3 rfl rfl (addN (by omega)) ?_
  refine O3 rfl rfl (half (by omega)) ?_
  refine oB 1 rfl ?_
  refine F9 ?_
  refine eSG (oA 2 rfl ?_)
  refine O3 rfl rfl (a8T (a5w (by omega)) rfl) ?_
  refine b2y rfl rfl rfl (ld9 (l:=a3M) (by show _ < 27; omega)) ?_
  refine oB 3 rfl ?_
  refine a1d rfl (fun h2=>?_) (fun h2=>?_)
  ·obtain rfl:r = true:=by rw [<- hr]; exact c0E (l:=a3M) (by show _ < 27; omega) h2
   refine eSG (oB 1 rfl ?_)
   exact D7 ⟨_,rfl,rfl⟩
  ·have hne:a3M.getD ((lo + hi) / 2) [] ≠ x:=fun e=>by simp only [eqS,e,beq_self_eq_true] at h2; cases h2
   refine eSG (oA 2 rfl ?_)
   refine O3 rfl rfl (a8T (a5w (by omega)) rfl) ?_
   refine b2y rfl rfl rfl (ld9 (l:=a3M) (by show _ < 27; omega)) ?_
   refine oB 3 rfl ?_
   refine a1d rfl (fun h3=>?_) (fun h3=>?_)
   ·have hL2:∀ k,k < (lo + hi) / 2 + 1 -> ltS (a3M.getD k []) x = true:=fun k hk=>by
     rcases Nat.lt_or_ge k ((lo + hi) / 2) with h | h
     ·exact b0W (a7v (l:=a3M) b1v _ _ h (by show _ < 27; omega)) h3
     ·obtain rfl:k = (lo + hi) / 2:=by omega
      exact h3
    refine u6 (oA 1 rfl ?_)
    refine O3 rfl rfl (add1 (by omega)) ?_
    refine oB 1 rfl ?_
    exact ⟨_,_,rfl,ih ((lo + hi) / 2 + 1,hi) (by show hi - ((lo + hi) / 2 + 1) < hi - lo; omega) ⟨by show (lo + hi) / 2 + 1 <= hi; omega,hhi,hL2,hR⟩⟩
   ·have hR2:∀ k,(lo + hi) / 2 <= k -> k < 27 -> ltS x (a3M.getD k []) = true:=fun k hk hk2=>by
     have h4:=c0P h3 hne
     rcases Nat.lt_or_ge ((lo + hi) / 2) k with h | h
     ·exact b0W h4 (a7v (l:=a3M) b1v _ _ h (by exact hk2))
     ·obtain rfl:k = (lo + hi) / 2:=by omega
      exact h4
    refine u6 (oB 2 rfl ?_)
    exact ⟨_,_,rfl,ih (lo,(lo + hi) / 2) (by show (lo + hi) / 2 - lo < hi - lo; omega) ⟨by show lo <= (lo + hi) / 2; omega,by show (lo + hi) / 2 <= 27; omega,hL,hR2⟩⟩
 ·replace h1:¬ lo < hi:=by simpa [ltN] using h1
  obtain rfl:r = false:=by
   rw [<- hr]
   refine c0D (l:=a3M) fun k hk e=>?_
   rcases Nat.lt_or_ge k lo with h | h
   ·have:=hL k h; rw [e,b4k] at this; cases this
   ·have:=hR k (by omega) (by exact hk); rw [e,b4k] at this; cases this
  refine V7 ?_
  refine eSG (oB 1 rfl ?_)
  exact D7 ⟨_,rfl,rfl⟩
end Go.Proofs.YtlfomdllnidliaaGreatDoor.Sc
namespace Go.Proofs.YtlfomdllnidliaaGreatDoor.Sc
open Go Go.Vm
theorem c31:E env (.call 73 []) [] = some (.ret (.agg (a3X.map V.str)) []):=(a2N env).le 5 _ _ _ (by kernel_rfl)
theorem c32:E env (.call 75 []) [] = some (.ret (.agg (a3M.map V.str)) []):=(a2N env).le 5 _ _ _ (by kernel_rfl)
def a5q (s:List UInt8) (i:Nat):Nat -> List UInt8
 | 0=>[]
 | k + 1=>match leB ((i + (k + 1):Nat):Int) s.length && hasL a3M ((s.take (i + (k + 1))).drop i) with
  | true=>(s.take (i + (k + 1))).drop i
  | false=>a5q s i k
section
variable (s:List UInt8) (i n:Nat) (tc:List V) (c a:Int) (e:Nat)
theorem c45 (hi:i <= s.length) (hs:s.length < 4611686018427387904) (r:List UInt8) (hr:a5q s i 2 = r):E env (.call 45 [.ptr 0 0]) (scH s i n tc c a e) = some (.ret (.str r) (scH s i n tc c a e)):=by
 refine a1r rfl Tryz.func45 rfl rfl ?_
 refine eSG (oB 1 rfl (eSG ?_))
 refine a0t rfl rfl rfl rfl rfl (c32 ..) rfl ?_
 refine oB 2 rfl (H8 (eSG (oB 1 rfl ?_)))
 refine F9 ?_
 refine Y1 rfl ?_
 refine b1K (fun k:Nat=>[(0,.ptr 0 0),(3,.ptr 2 0),(4,.i k)]) (fun _=>[(0,.row [.str s,.i i,.slice (.tag 1) n tc,.i c,.i a]),(1,.tip e n),(2,.row (a3M.map V.str))]) (fun k=>k <= 2 /\ a5q s i k = r) (fun k=>k) 2 ⟨Nat.le_refl _,hr⟩ ?_
 intro k ⟨hk,hr⟩ ih
 refine H8 (eSG (oB 2 rfl ?_))
 refine a1d rfl (fun h1=>?_) (fun h1=>?_)
 ·replace h1:0 < k:=by simpa [ltB] using h1
  obtain ⟨k,rfl⟩:∃ k0,k = k0 + 1:=⟨k - 1,by omega⟩
  refine E8 (H8 ?_)
  refine F9 ?_
  refine eSG (oA 6 rfl ?_)
  refine O3 rfl rfl (addN (by omega)) ?_
  refine oA 8 rfl ?_
  refine M9 rfl rfl rfl (fun h2=>?_) (fun h2=>?_)
  ·have h2':i + (k + 1) <= s.length:=by have h:=h2; rw [leN_,decide_eq_true_eq] at h; exact h
   refine O3 rfl rfl (a8T (b22 (a:=0) (b:=27) (by omega) (by omega)) rfl) ?_
   refine oA 16 rfl ?_
   refine O3 rfl rfl (addN (by omega)) ?_
   refine O3 rfl rfl (a8T (b22 (by omega) (by omega)) rfl) ?_
   refine oV (c66s _ _ rfl) ?_
   refine oB 1 rfl ?_
   refine a1d rfl (fun h3=>?_) (fun h3=>?_)
   ·simp only [Int.toNat_natCast] at h3
    obtain rfl:(s.take (i + (k + 1))).drop i = r:=by rw [<- hr]; simp only [a5q,h2,h3,Bool.true_and]
    refine eSG (oA 16 rfl ?_)
    refine O3 rfl rfl (addN (by omega)) ?_
    refine O3 rfl rfl (a8T (b22 (by omega) (by omega)) rfl) ?_
    refine oB 1 rfl ?_
    exact D7 ⟨_,rfl,rfl⟩
   ·simp only [Int.toNat_natCast] at h3
    refine E8 (u6 (oA 1 rfl ?_))
    refine O3 rfl rfl (sub1 (by omega) (by omega)) ?_
    refine oB 1 rfl ?_
    exact ⟨_,_,rfl,ih k (by omega) ⟨by omega,by rw [<- hr]; simp only [a5q,h2,h3,Bool.true_and]⟩⟩
  ·refine oB 21 rfl ?_
   refine a2a rfl rfl ?_
   refine E8 (u6 (oA 1 rfl ?_))
   refine O3 rfl rfl (sub1 (by omega) (by omega)) ?_
   refine oB 1 rfl ?_
   exact ⟨_,_,rfl,ih k (by omega) ⟨by omega,by rw [<- hr]; simp only [a5q,h2,Bool.false_and]⟩⟩
 ·obtain rfl:k = 0:=by simpa [ltB] using h1
  obtain rfl:[] = r:=hr
  refine V7 ?_
  refine eSG (oB 1 rfl ?_)
  exact D7 ⟨_,rfl,rfl⟩
end
end Go.Proofs.YtlfomdllnidliaaGreatDoor.Sc
namespace Go.Proofs.YtlfomdllnidliaaGreatDoor.Sc
open Go Go.Vm
def a7T (w:List UInt8):Int:=match hasL a3X w with
 | true=>9
 | false=>match leB 65 (w.getD 0 0).toNat && leB (w.getD 0 0).toNat 90 with | true=>2 | false=>1
section
variable (s:List UInt8) (i n:Nat) (tc:List V) (c a:Int) (e:Nat)
theorem c44 (hi:i <= s.length) (hs:s.length < 4611686018427387904) (he:e = 0 ∨ e = 4) (hn:n <= 100000) (htc:tc.length = n * 4) (r:Nat) (hr:a1G a3y s i = r) (w:List UInt8) (hw:(s.take r).drop i = w) (hw0:0 < w.length) (b:Bool) (hb:ltB 24 w.length = b) :
  E env (.call 44 [.ptr 0 0]) (scH s i n tc c a e) = some (.ret (.bool (!b)) (match b with | true=>scH s r n tc 14 i e | false=>scH s r (n + 1) (tc ++ b1Y (a7T w) w i (r - i)) c a 4)):=by
 have h63:=c63 s i n tc c a e 72 a3y rfl c65 hi hs
 rw [hr,hw] at h63
 have hri:i <= r:=by rw [<- hr]; exact b7X
 have hrl:r <= s.length:=by rw [<- hr]; exact a8g hi
 obtain ⟨k,hk⟩:∃ k,a7T w = k:=⟨_,rfl⟩
 rw [hk]
 refine a1r rfl Tryz.func44 rfl rfl ?_
 refine eSG (oB 1 rfl (eSG (oB 6 rfl (eSG (oA 3 rfl ?_)))))
 refine b0Y rfl rfl rfl (b1E rfl rfl h63 rfl rfl rfl) ?_
 refine oB 1 rfl (H8 (eSG (oB 3 rfl ?_)))
 refine a1d rfl (fun h1=>?_) (fun h1=>?_)
 ·obtain rfl:b = true:=by rw [<- hb]; exact h1
  refine eSG (oA 2 rfl ?_)
  refine oV (c38 ..) ?_
  refine oB 1 rfl ?_
  exact D7 ⟨_,rfl,rfl⟩
 ·obtain rfl:b = false:=by rw [<- hb]; exact h1
  refine E8 (eSG ?_)
  refine a0t rfl rfl rfl rfl rfl (c31 ..) rfl ?_
  refine oB 2 rfl (eSG (oB 1 rfl (H8 (eSG ?_))))
  refine O3 rfl rfl (a8T (b22 (a:=0) (b:=32) (by omega) (by omega)) rfl) ?_
  refine oA 1 rfl ?_
  refine oV (c66w _ _ rfl) ?_
  refine D5 ?_
  refine a1d rfl (fun h2=>?_) (fun h2=>?_)
  ·obtain rfl:9 = k:=by rw [<- hk]; simp only [a7T,h2]
   refine u6 (oB 1 rfl (eSG (oA 4 rfl ?_)))
   refine oV (c46 s r n tc c a e _ w i hri (by omega) he hn htc) ?_
   refine D5 (eSG (oB 1 rfl ?_))
   exact D7 ⟨_,rfl,rfl⟩
  ·refine eSG (oA 1 rfl ?_)
   refine O3 rfl rfl (a8T (a5w (i:=0) hw0) rfl) ?_
   refine oA 2 rfl ?_
   refine M9 rfl rfl rfl (fun h3=>?_) (fun h3=>?_)
   ·refine oA 1 rfl ?_
    refine O3 rfl rfl (a8T (a5w (i:=0) hw0) rfl) ?_
    refine oB 2 rfl ?_
    refine a1d rfl (fun h4=>?_) (fun h4=>?_)
    ·simp only [Int.toNat_zero] at h3 h4
     obtain rfl:2 = k:=by rw [<- hk]; simp only [a7T,h2,h3,h4,Bool.and_self]
     refine u6 (oB 1 rfl (eSG (oA 4 rfl ?_)))
     refine oV (c46 s r n tc c a e _ w i hri (by omega) he hn htc) ?_
     refine D5 (eSG (oB 1 rfl ?_))
     exact D7 ⟨_,rfl,rfl⟩
    ·simp only [Int.toNat_zero] at h3 h4
     obtain rfl:1 = k:=by rw [<- hk]; simp only [a7T,h2,h3,h4,Bool.and_false]
     refine E8 (eSG (oA 4 rfl ?_))
     refine oV (c46 s r n tc c a e _ w i hri (by omega) he hn htc) ?_
     refine D5 (eSG (oB 1 rfl ?_))
     exact D7 ⟨_,rfl,rfl⟩
   ·simp only [Int.toNat_zero] at h3
    obtain rfl:1 = k:=by rw [<- hk]; simp only [a7T,h2,h3,Bool.false_and]
    refine oB 4 rfl ?_
    refine a2a rfl rfl ?_
    refine E8 (eSG (oA 4 rfl ?_))
    refine oV (c46 s r n tc c a e _ w i hri (by omega) he hn htc) ?_
    refine D5 (eSG (oB 1 rfl ?_))
    exact D7 ⟨_,rfl,rfl⟩
end
end Go.Proofs.YtlfomdllnidliaaGreatDoor.Sc
namespace Go.Proofs.YtlfomdllnidliaaGreatDoor.Sc
open Go Go.Vm
structure Tok where
 k:Int
 t:List UInt8
 a:Nat
 l:Nat
deriving DecidableEq
def a2w (l:List Tok):List V:=l.flatMap fun t=>b1Y t.k t.t t.a t.l
theorem a7b (l:List Tok):(a2w l).length = l.length * 4:=by
 induction l with
 | nil=>rfl
 | cons t r ih=>simp only [a2w,List.flatMap_cons,List.length_append,List.length_cons] at ih ⊢; rw [ih]; simp only [b1Y,List.length_cons,List.length_nil]; omega
theorem b1H (l:List Tok) (t:Tok):a2w (l ++ [t]) = a2w l ++ b1Y t.k t.t t.a t.l:=by simp [a2w]
inductive PR where
 | err (c:Int) (a:Nat)
 | fin (t:List UInt8) (e:Nat)
 | more (t:List UInt8) (e:Nat)
section
variable (s:List UInt8)
def a9h (q ins:Nat):Nat -> Nat -> List UInt8 -> PR
 | 0,_,_=>.err 11 q
 | f + 1,i,text =>
  match decide (i < s.length) && decide (32 <= (s.getD i 0).toNat) with
  | false=>.err 11 q
  | true=>match decide ((s.getD i 0).toNat = 34) with
   | true=>.fin text (i + 1)
   | false=>match decide ((s.getD i 0).toNat = 92) with
    | false=>a9h q ins f (i + 1) (text ++ [s.getD i 0])
    | true=>match decide ((s.getD (i + 1) 0).toNat = 110) with
     | true=>a9h q ins f (i + 2) (text ++ [10])
     | false=>match decide ((s.getD (i + 1) 0).toNat = 116) with
      | true=>a9h q ins f (i + 2) (text ++ [9])
      | false=>match decide ((s.getD (i + 1) 0).toNat = 92) || decide ((s.getD (i + 1) 0).toNat = 34) with
       | true=>a9h q ins f (i + 2) (text ++ [s.getD (i + 1) 0])
       | false=>match decide ((s.getD (i + 1) 0).toNat = 40) with
        | true=>match decide (3 <= ins) with
         | true=>.err 15 i
         | false=>.more text (i + 2)
        | false=>.err 12 i
theorem a7o (q ins:Nat):∀ (f g i:Nat) (text:List UInt8),s.length <= i + f -> s.length <= i + g -> a9h s q ins f i text = a9h s q ins g i text:=by
 have z:∀ (g i:Nat) (text:List UInt8),s.length <= i -> a9h s q ins g i text = .err 11 q:=by
  intro g i text h
  cases g with
  | zero=>rfl
  | succ g =>
   have:(decide (i < s.length) && decide (32 <= (s.getD i 0).toNat)) = false:=by rw [Bool.and_eq_false_iff,decide_eq_false_iff_not]; exact .inl (by omega)
   simp only [a9h,this]
 intro f
 induction f with
 | zero=>intro g i text h _; rw [z g i text (by omega)]; rfl
 | succ f ih =>
  intro g i text h1 h2
  cases g with
  | zero=>rw [z (f + 1) i text (by omega)]; rfl
  | succ g =>
   simp only [a9h]
   rw [ih g (i + 1) (text ++ [s.getD i 0]) (by omega) (by omega),ih g (i + 2) (text ++ [10]) (by omega) (by omega),ih g (i + 2) (text ++ [9]) (by omega) (by omega),ih g (i + 2) (text ++ [s.getD (i + 1) 0]) (by omega) (by omega)]
def part (q ins i:Nat) (text:List UInt8):PR:=a9h s q ins (s.length - i) i text
theorem a6e (q ins i:Nat) (text:List UInt8):part s q ins i text =
  match decide (i < s.length) && decide (32 <= (s.getD i 0).toNat) with
  | false=>.err 11 q
  | true=>match decide ((s.getD i 0).toNat = 34) with
   | true=>.fin text (i + 1)
   | false=>match decide ((s.getD i 0).toNat = 92) with
    | false=>part s q ins (i + 1) (text ++ [s.getD i 0])
    | true=>match decide ((s.getD (i + 1) 0).toNat = 110) with
     | true=>part s q ins (i + 2) (text ++ [10])
     | false=>match decide ((s.getD (i + 1) 0).toNat = 116) with
      | true=>part s q ins (i + 2) (text ++ [9])
      | false=>match decide ((s.getD (i + 1) 0).toNat = 92) || decide ((s.getD (i + 1) 0).toNat = 34) with
       | true=>part s q ins (i + 2) (text ++ [s.getD (i + 1) 0])
       | false=>match decide ((s.getD (i + 1) 0).toNat = 40) with
        | true=>match decide (3 <= ins) with
         | true=>.err 15 i
         | false=>.more text (i + 2)
        | false=>.err 12 i:=by
 unfold part
 rw [a7o s q ins (s.length - i) (s.length - i + 1) i text (by omega) (by omega)]
 simp only [a9h]
 rw [a7o s q ins (s.length - i) (s.length - (i + 1)) (i + 1) _ (by omega) (by omega),a7o s q ins (s.length - i) (s.length - (i + 2)) (i + 2) (text ++ [10]) (by omega) (by omega),
  a7o s q ins (s.length - i) (s.length - (i + 2)) (i + 2) (text ++ [9]) (by omega) (by omega),a7o s q ins (s.length - i) (s.length - (i + 2)) (i + 2) (text ++ [s.getD (i + 1) 0]) (by omega) (by omega)]
structure MS where
 i:Nat
 toks:List Tok
 st:List (Nat × Int)
inductive MR where
 | go (x:MS)
 | done (l:List Tok)
 | err (c:Int) (a:Nat)
def a3g (toks:List Tok) (st:List (Nat × Int)) (q frm:Nat) (last more:Int):PR -> MR
 | .err c a=>.err c a
 | .fin t e=>.go ⟨e,toks ++ [⟨last,t,frm,e - frm⟩],st⟩
 | .more t e=>.go ⟨e,toks ++ [⟨more,t,frm,e - frm⟩],(q,0) :: st⟩
def bump (w:List UInt8):List (Nat × Int) -> List (Nat × Int)
 | []=>[]
 | (q,p) :: st=>match decide (w = [40]) with
  | true=>(q,p + 1) :: st
  | false=>match decide (w = [41]) with
   | true=>(q,p - 1) :: st
   | false=>(q,p) :: st
def closes (b:Nat):List (Nat × Int) -> Bool
 | []=>false
 | (_,p) :: _=>decide (p = 0) && decide (b = 41)
def roomy (toks:List Tok) (j:Nat) (r:MR):MR:=match decide (3000 <= toks.length) with | true=>.err 2 j | false=>r
def stepM (x:MS):MR :=
  let j:=a1C s x.i
  match decide (s.length <= j) with
  | true=>match x.st with
    | []=>.done x.toks
    | (q,_) :: _=>.err 11 q
  | false =>
    let b:=s.getD j 0
    match closes b.toNat x.st with
    | true=>match x.st with
      | []=>.err 0 0
      | (q,_) :: st=>roomy x.toks j (a3g x.toks st q j 7 6 (part s q st.length (j + 1) []))
    | false=>match decide (b.toNat = 34) with
      | true=>roomy x.toks j (a3g x.toks x.st j j 4 5 (part s j x.st.length (j + 1) []))
      | false=>match a0H b with
        | true=>roomy x.toks j (
            let r:=a1G a0H s j
            let w:=(s.take r).drop j
            match a1V w (s.getD r 0) with
            | true=>.err 13 j
            | false=>.go ⟨r,x.toks ++ [⟨3,w,j,r - j⟩],x.st⟩)
        | false=>match a3D b with
          | true=>roomy x.toks j (
              let r:=a1G a3y s j
              let w:=(s.take r).drop j
              match ltB 24 w.length with
              | true=>.err 14 j
              | false=>.go ⟨r,x.toks ++ [⟨a7T w,w,j,r - j⟩],x.st⟩)
          | false =>
            let w:=a5q s j 2
            match w with
            | []=>.err 10 j
            | w=>roomy x.toks j (.go ⟨j + w.length,x.toks ++ [⟨8,w,j,w.length⟩],bump w x.st⟩)
inductive Reach:MS -> MS -> Prop
 | refl (x:MS):Reach x x
 | step (x y z:MS):stepM s x = .go y -> Reach y z -> Reach x z
def Ends (x:MS) (r:MR):Prop:=∃ y,Reach s x y /\ stepM s y = r /\ (∀ z,r ≠ .go z)
theorem Reach.trans {x y z:MS} (h:Reach s x y) (g:Reach s y z):Reach s x z:=by
 induction h with
 | refl x=>exact g
 | step x y w h1 _ ih=>exact .step x y z h1 (ih g)
theorem Reach.one {x y:MS} (h:stepM s x = .go y):Reach s x y:=.step x y y h (.refl y)
theorem Ends.a1t {x y:MS} {r:MR} (h:Reach s x y) (g:Ends s y r):Ends s x r:=by
 obtain ⟨z,h1,h2⟩:=g; exact ⟨z,h.trans s h1,h2⟩
theorem Ends.det {x:MS} {r r':MR} (h:Ends s x r) (g:Ends s x r'):r = r':=by
 obtain ⟨y,h1,h2,h3⟩:=h
 obtain ⟨z,g1,g2,g3⟩:=g
 induction h1 with
 | refl x =>
  cases g1 with
  | refl=>rw [<- h2,<- g2]
  | step _ y _ k1 _=>rw [h2] at k1; exact absurd k1 (h3 y)
 | step x y w k1 k2 ih =>
  cases g1 with
  | refl=>rw [g2] at k1; exact absurd k1 (g3 y)
  | step _ y' _ m1 m2 =>
   rw [k1] at m1; cases m1
   exact ih h2 m2
end
end Go.Proofs.YtlfomdllnidliaaGreatDoor.Sc
namespace Go.Proofs.YtlfomdllnidliaaGreatDoor.Sc
open Go Go.Vm
theorem a7a (t:List UInt8):(a2Z t).length = t.length * 1:=by simp [a2Z]
theorem a6l (t:List UInt8) (b:UInt8):a2Z t ++ [V.int .u8 (b.toNat:Nat)] = a2Z (t ++ [b]):=by simp [a2Z]
theorem b0B (t:List UInt8) (b:UInt8):t.length + 1 = (t ++ [b]).length:=by simp
theorem b4b {o:Own} (t:List UInt8):b9k env.T 62 9 (.slice o t.length (a2Z t)) = some (.str t):=by
 show (match a6i (a2Z t) with | some l=>gd (eqN t.length l.length) (some (V.str l)) | none=>none) = _
 rw [b5T]
 exact a7f (a1Y rfl) rfl
def scE (s:List UInt8) (i:Nat) (toks:List Tok) (c a:Int) (e:Nat):Hp:=scH s i toks.length (a2w toks) c a e
theorem c46T (s:List UInt8) (i:Nat) (toks:List Tok) (c a:Int) (e:Nat) (k:Int) (t:List UInt8) (f:Nat) (hf:f <= i) (hi:i < 9223372036854775808) (he:e = 0 ∨ e = 4) (hn:toks.length <= 100000) :
  E env (.call 46 [.ptr 0 0,.i k,.str t,.i f]) (scE s i toks c a e) = some (.ret (.tuple []) (scE s i (toks ++ [⟨k,t,f,i - f⟩]) c a 4)):=by
 have h:=c46 s i toks.length (a2w toks) c a e k t f hf hi he hn (a7b toks)
 unfold scE
 rw [b1H,List.length_append]
 exact h
theorem c39F (s:List UInt8) (i:Nat) (toks:List Tok) (c a:Int) (e:Nat) (h:leB 3000 (toks.length:Nat) = false):E env (.call 39 [.ptr 0 0]) (scE s i toks c a e) = some (.ret (.bool true) (scE s i toks c a e)):=by
 have:=c39 s i toks.length (a2w toks) c a e
 rw [h] at this; exact this
theorem c39T (s:List UInt8) (i:Nat) (toks:List Tok) (c a:Int) (e:Nat) (h:leB 3000 (toks.length:Nat) = true):E env (.call 39 [.ptr 0 0]) (scE s i toks c a e) = some (.ret (.bool false) (scE s i toks 2 i e)):=by
 have:=c39 s i toks.length (a2w toks) c a e
 rw [h] at this; exact this
def OutP (s:List UInt8) (c a:Int) (P:Nat -> List Tok -> Prop) (Q:Int -> Nat -> Prop) (v:V) (H:Hp):Prop :=
 (v = .bool true /\ ∃ i' toks' e',H = scE s i' toks' c a e' /\ (e' = 0 ∨ e' = 4) /\ i' <= s.length /\ toks'.length <= 3000 /\ P i' toks') ∨
 (v = .bool false /\ ∃ (c':Int) (a' i' n':Nat) (tc':List V) (e':Nat),H = scH s i' n' tc' c' a' e' /\ Q c' a')
def AllOk (s:List UInt8) (nest:Nat):Prop:=∀ (i:Nat) (toks:List Tok) (st:List (Nat × Int)) (opn:Nat) (c a:Int) (e:Nat),i <= s.length -> toks.length <= 3000 -> (e = 0 ∨ e = 4) -> st.length + 1 = nest ->
 ∃ v H2,E env (.call 17 [.ptr 0 0,.i nest,.i opn]) (scE s i toks c a e) = some (.ret v H2) /\
  OutP s c a (fun i' toks'=>i <= i' /\ i' < s.length /\ (s.getD i' 0).toNat = 41 /\ ∃ i0,Reach s ⟨i,toks,(opn,0) :: st⟩ ⟨i0,toks',(opn,0) :: st⟩ /\ a1C s i0 = i')
   (fun c' a'=>Ends s ⟨i,toks,(opn,0) :: st⟩ (.err c' a')) v H2
def b4x (s:List UInt8) (nest:Nat):Prop:=∀ (i i0:Nat) (toks:List Tok) (st:List (Nat × Int)) (c a:Int) (e:Nat),a1C s i0 = i -> i < s.length -> (s.getD i 0).toNat = 34 -> toks.length < 3000 -> (e = 0 ∨ e = 4) -> st.length = nest ->
 ∃ v H2,E env (.call 40 [.ptr 0 0,.i nest]) (scE s i toks c a e) = some (.ret v H2) /\
  OutP s c a (fun i' toks'=>i < i' /\ Reach s ⟨i0,toks,st⟩ ⟨i',toks',st⟩) (fun c' a'=>Ends s ⟨i0,toks,st⟩ (.err c' a')) v H2
theorem b6i {b:Nat} {st:List (Nat × Int)} (h:b ≠ 41):closes b st = false:=by
 cases st with
 | nil=>rfl
 | cons x st=>simp [closes,h]
theorem b9c {s:List UInt8} {i i0:Nat} {toks:List Tok} {st:List (Nat × Int)} (h0:a1C s i0 = i) (hi:i < s.length) (hq:(s.getD i 0).toNat = 34) (ht:toks.length < 3000) :
  stepM s ⟨i0,toks,st⟩ = a3g toks st i i 4 5 (part s i st.length (i + 1) []):=by
 have h1:decide (s.length <= i) = false:=by simp; omega
 have h2:decide (3000 <= toks.length) = false:=by simp; omega
 simp only [stepM,h0,h1,b6i (st:=st) (b:=(s.getD i 0).toNat) (by omega),hq,decide_true,roomy,h2]
 rw [hq] at *
 simp only [b6i (st:=st) (b:=34) (by omega)]
theorem a6u {s:List UInt8} {i i0 q:Nat} {toks:List Tok} {st:List (Nat × Int)} (h0:a1C s i0 = i) (hi:i < s.length) (hq:(s.getD i 0).toNat = 41) :
  stepM s ⟨i0,toks,(q,0) :: st⟩ = roomy toks i (a3g toks st q i 7 6 (part s q st.length (i + 1) [])):=by
 have h1:decide (s.length <= i) = false:=by simp; omega
 simp only [stepM,h0,h1,closes,hq,decide_true,Bool.and_self]
structure LS where
 X:MS
 first:Bool
 text:List UInt8
 w:Nat
 j:Nat
 frm:Nat
 toks:List Tok
 e:Nat
end Go.Proofs.YtlfomdllnidliaaGreatDoor.Sc
namespace Go.Proofs.YtlfomdllnidliaaGreatDoor.Sc
open Go Go.Vm
section
variable {s:List UInt8} {q ins j:Nat} {text:List UInt8}
theorem part_end (h:s.length <= j):part s q ins j text = .err 11 q:=by
 have h1:(decide (j < s.length) && decide (32 <= (s.getD j 0).toNat)) = false:=by rw [Bool.and_eq_false_iff,decide_eq_false_iff_not]; exact .inl (by omega)
 rw [a6e]; simp only [h1]
theorem part_low (h:(s.getD j 0).toNat < 32):part s q ins j text = .err 11 q:=by
 have h1:(decide (j < s.length) && decide (32 <= (s.getD j 0).toNat)) = false:=by rw [Bool.and_eq_false_iff,decide_eq_false_iff_not,decide_eq_false_iff_not]; exact .inr (by omega)
 rw [a6e]; simp only [h1]
variable (h:j < s.length) (h2:32 <= (s.getD j 0).toNat)
include h h2
theorem a8e:(decide (j < s.length) && decide (32 <= (s.getD j 0).toNat)) = true:=by rw [Bool.and_eq_true,decide_eq_true_eq,decide_eq_true_eq]; exact ⟨h,h2⟩
theorem b8T (h3:(s.getD j 0).toNat = 34):part s q ins j text = .fin text (j + 1):=by
 rw [a6e,a8e h h2]; simp only [decide_eq_true h3]
theorem c1y (h3:(s.getD j 0).toNat ≠ 34) (h4:(s.getD j 0).toNat ≠ 92):part s q ins j text = part s q ins (j + 1) (text ++ [s.getD j 0]):=by
 rw [a6e,a8e h h2]; simp only [decide_eq_false h3,decide_eq_false h4]
variable (h4:(s.getD j 0).toNat = 92)
include h4
theorem a5Z:decide ((s.getD j 0).toNat = 34) = false:=decide_eq_false (by omega)
theorem part_n (h5:(s.getD (j + 1) 0).toNat = 110):part s q ins j text = part s q ins (j + 2) (text ++ [10]):=by
 rw [a6e,a8e h h2]; simp only [a5Z h h2 h4,decide_eq_true h4,decide_eq_true h5]
theorem part_t (h5:(s.getD (j + 1) 0).toNat = 116):part s q ins j text = part s q ins (j + 2) (text ++ [9]):=by
 have h6:decide ((s.getD (j + 1) 0).toNat = 110) = false:=decide_eq_false (by omega)
 rw [a6e,a8e h h2]; simp only [a5Z h h2 h4,decide_eq_true h4,h6,decide_eq_true h5]
theorem b6R (h5:(s.getD (j + 1) 0).toNat = 92 ∨ (s.getD (j + 1) 0).toNat = 34):part s q ins j text = part s q ins (j + 2) (text ++ [s.getD (j + 1) 0]):=by
 have h6:decide ((s.getD (j + 1) 0).toNat = 110) = false:=decide_eq_false (by omega)
 have h7:decide ((s.getD (j + 1) 0).toNat = 116) = false:=decide_eq_false (by omega)
 have h8:(decide ((s.getD (j + 1) 0).toNat = 92) || decide ((s.getD (j + 1) 0).toNat = 34)) = true:=by rw [Bool.or_eq_true,decide_eq_true_eq,decide_eq_true_eq]; exact h5
 rw [a6e,a8e h h2]; simp only [a5Z h h2 h4,decide_eq_true h4,h6,h7,h8]
theorem c1z (h5:(s.getD (j + 1) 0).toNat = 40) (h9:3 <= ins):part s q ins j text = .err 15 j:=by
 have h6:decide ((s.getD (j + 1) 0).toNat = 110) = false:=decide_eq_false (by omega)
 have h7:decide ((s.getD (j + 1) 0).toNat = 116) = false:=decide_eq_false (by omega)
 have h8:(decide ((s.getD (j + 1) 0).toNat = 92) || decide ((s.getD (j + 1) 0).toNat = 34)) = false:=by rw [Bool.or_eq_false_iff,decide_eq_false_iff_not,decide_eq_false_iff_not]; omega
 rw [a6e,a8e h h2]; simp only [a5Z h h2 h4,decide_eq_true h4,h6,h7,h8,decide_eq_true h5,decide_eq_true h9]
theorem b6Q (h5:(s.getD (j + 1) 0).toNat = 40) (h9:¬ 3 <= ins):part s q ins j text = .more text (j + 2):=by
 have h6:decide ((s.getD (j + 1) 0).toNat = 110) = false:=decide_eq_false (by omega)
 have h7:decide ((s.getD (j + 1) 0).toNat = 116) = false:=decide_eq_false (by omega)
 have h8:(decide ((s.getD (j + 1) 0).toNat = 92) || decide ((s.getD (j + 1) 0).toNat = 34)) = false:=by rw [Bool.or_eq_false_iff,decide_eq_false_iff_not,decide_eq_false_iff_not]; omega
 rw [a6e,a8e h h2]; simp only [a5Z h h2 h4,decide_eq_true h4,h6,h7,h8,decide_eq_true h5,decide_eq_false h9]
theorem part_bad (h5:(s.getD (j + 1) 0).toNat ≠ 110) (h6:(s.getD (j + 1) 0).toNat ≠ 116) (h7:(s.getD (j + 1) 0).toNat ≠ 92) (h8:(s.getD (j + 1) 0).toNat ≠ 34) (h9:(s.getD (j + 1) 0).toNat ≠ 40):part s q ins j text = .err 12 j:=by
 have h10:(decide ((s.getD (j + 1) 0).toNat = 92) || decide ((s.getD (j + 1) 0).toNat = 34)) = false:=by rw [Bool.or_eq_false_iff,decide_eq_false_iff_not,decide_eq_false_iff_not]; omega
 rw [a6e,a8e h h2]; simp only [a5Z h h2 h4,decide_eq_true h4,decide_eq_false h5,decide_eq_false h6,h10,decide_eq_false h9]
end
end Go.Proofs.YtlfomdllnidliaaGreatDoor.Sc
