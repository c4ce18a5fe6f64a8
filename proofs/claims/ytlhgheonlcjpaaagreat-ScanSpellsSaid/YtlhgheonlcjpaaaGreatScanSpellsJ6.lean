/- What the functions under ScanSpells compute, step by step, as functions in Lean: texts that were built one by one, joined. -/
import Derived.Test.YtlhgheonlcjpaaaGreatScanSpellsJ5
set_option maxRecDepth 100000
set_option maxHeartbeats 20000000
set_option linter.unusedSimpArgs false
set_option linter.unusedVariables false
set_option linter.unusedSectionVars false
namespace Go.Proofs.YtlhgheonlcjpaaaGreat.Sc
open Go Go.Vm
theorem a4i {s:List UInt8} {i:Nat} (h:s.length <= i):s.getD i 0 = 0:=by rw [List.getD_eq_getElem?_getD,List.getElem?_eq_none h]; rfl
theorem c27 (s:List UInt8) (i:Nat) (hi:i <= s.length) (hs:s.length < 4611686018427387904):E env (.call 25 [.str s,.i i]) [] = some (.ret (.i (F7 s i)) []):=by
 obtain ⟨r,hr⟩:∃ r,F7 s i = r:=⟨_,rfl⟩
 rw [hr]
 refine y9 rfl Tryz.func25 rfl rfl ?_
 refine eSG (oB 1 rfl (j4 ?_))
 refine o7 ?_
 refine J3 rfl ?_
 refine U4 (fun j=>[(0,.str s),(1,.i (j:Nat))]) (fun _=>[]) (fun j=>j <= s.length /\ F7 s j = r) (fun j=>s.length - j) i ⟨hi,hr⟩ ?_
 intro i ⟨hi,hr⟩ ih
 refine j4 (eSG (oB 4 rfl ?_))
 refine q9 rfl (fun g8=>?_) (fun g8=>?_)
 ·replace g8:i < s.length:=by simpa [ltN] using g8
  refine j6 ?_
  refine o7 ?_
  refine j4 (eSG (oA 2 rfl ?_))
  refine d9 rfl rfl (F6 (C8 (by omega)) rfl) ?_
  refine o6 rfl rfl rfl rfl rfl (c47 ..) rfl ?_
  refine o5 ?_
  refine q9 rfl (fun g12=>?_) (fun g12=>?_)
  ·simp only [Int.toNat_natCast] at g12
   refine eSG (oA 1 rfl ?_)
   refine d9 rfl rfl (add1 (by omega)) ?_
   refine oB 1 rfl ?_
   refine G5 ?_
   exact ⟨_,_,rfl,ih (i + 1) (by omega) ⟨by omega,by rw [<- a5w g8 g12]; exact hr⟩⟩
  ·simp only [Int.toNat_natCast] at g12
   refine j6 (j4 ?_)
   refine L6 (f:=25) [15,16,17,18,19,20,21,22,23,24,25,26,27,28,29,30,31] (fun (x:Bool) fr=>(32,.bool x) :: fr) (fun x=>x = !(decide ((s.getD i 0).toNat = 47) && decide ((s.getD (i + 1) 0).toNat = 47))) (by kernel_rfl) (by repeat (first | exact L8 rfl | exact I9 rfl | refine J2 (by kernel_rfl) ?_ | refine G9 ?_ | refine H6 (by kernel_rfl) ?_ | refine I8 (by kernel_rfl) ?_)) ?_ ?_
   ·refine j3 (oA 2 rfl ?_)
    refine d9 rfl rfl (F6 (C8 (by omega)) rfl) ?_
    refine oA 2 rfl ?_
    refine l7 rfl rfl rfl (fun g19=>?_) (fun g19=>?_)
    ·try simp only [eqB,ltB,leB,eqS,decide_eq_true_eq,decide_eq_false_iff_not,beq_iff_eq,beq_eq_false_iff_ne,ne_eq,Int.toNat_natCast,Bool.not_eq_true',Bool.not_eq_false'] at g19
     refine oB 13 rfl ?_
     refine ⟨?_,?_,?_,rfl⟩
     rotate_left 2
     ·(repeat (first | exact Off.refl | refine Off.right rfl ?_ | refine Off.left rfl ?_ | refine Off.over ?_ | refine Off.I7 rfl ?_))
     ·rw [decide_eq_false (by omega)]; rfl
    ·try simp only [eqB,ltB,leB,eqS,decide_eq_true_eq,decide_eq_false_iff_not,beq_iff_eq,beq_eq_false_iff_ne,ne_eq,Int.toNat_natCast,Bool.not_eq_true',Bool.not_eq_false'] at g19
     refine oA 1 rfl ?_
     refine d9 rfl rfl (add1 (by omega)) ?_
     refine oA 5 rfl ?_
     refine l7 rfl rfl rfl (fun g26=>?_) (fun g26=>?_)
     ·try simp only [eqB,ltB,leB,eqS,decide_eq_true_eq,decide_eq_false_iff_not,beq_iff_eq,beq_eq_false_iff_ne,ne_eq,Int.toNat_natCast,Bool.not_eq_true',Bool.not_eq_false'] at g26
      refine oB 6 rfl ?_
      refine ⟨?_,?_,?_,rfl⟩
      rotate_left 2
      ·(repeat (first | exact Off.refl | refine Off.right rfl ?_ | refine Off.left rfl ?_ | refine Off.over ?_ | refine Off.I7 rfl ?_))
      ·rw [a4i (show s.length <= i + 1 by omega)]; simp
     ·try simp only [eqB,ltB,leB,eqS,decide_eq_true_eq,decide_eq_false_iff_not,beq_iff_eq,beq_eq_false_iff_ne,ne_eq,Int.toNat_natCast,Bool.not_eq_true',Bool.not_eq_false'] at g26
      refine oA 2 rfl ?_
      refine d9 rfl rfl (add1 (by omega)) ?_
      refine d9 rfl rfl (F6 (C8 (by omega)) rfl) ?_
      refine oB 2 rfl ?_
      refine ⟨?_,?_,?_,rfl⟩
      rotate_left 2
      ·(repeat (first | exact Off.refl | refine Off.right rfl ?_ | refine Off.left rfl ?_ | refine Off.over ?_ | refine Off.I7 rfl ?_))
      ·rw [decide_eq_true (show (s.getD i 0).toNat = 47 by omega),Bool.true_and]; simp only [eqB,Int.toNat_natCast]; congr 1; rw [Bool.eq_iff_iff]; simp; omega
   ·intro x hx
    show Ev _ _ _ _ _ ((32,V.bool x) :: _) _ _
    refine q9 rfl (fun g32=>?_) (fun g32=>?_)
    ·obtain rfl:i = r:=by
      rw [<- hr]
      refine (a6R g8 g12 ?_).symm
      rw [g32] at hx
      have:=hx.symm
      simp only [Bool.not_eq_true',Bool.and_eq_false_iff,decide_eq_false_iff_not] at this
      exact this
     refine eSG (oB 2 rfl ?_)
     exact j5 ⟨_,rfl,rfl⟩
    ·replace g32:(s.getD i 0).toNat = 47 /\ (s.getD (i + 1) 0).toNat = 47:=by
      rw [g32] at hx
      have:=hx.symm
      simp only [Bool.not_eq_false',Bool.and_eq_true,decide_eq_true_eq] at this
      exact this
     obtain ⟨R,hR⟩:∃ R,D7 nlB s i = R:=⟨_,rfl⟩
     have hRl:R <= s.length:=by rw [<- hR]; exact Z8 hi
     have hRi:i < R:=by rw [<- hR]; exact a0B g8 (by simp only [nlB,decide_eq_true_eq]; omega)
     refine j6 ?_
     refine o7 ?_
     refine J3 rfl ?_
     refine U4 (fun j=>[(0,.str s),(1,.i (j:Nat))]) (fun _=>[]) (fun j=>j <= s.length /\ D7 nlB s j = R) (fun j=>s.length - j) i ⟨hi,hR⟩ ?_
     intro k ⟨hk,hkR⟩ ih1
     refine j4 ?_
     refine L6 (f:=25) [34,35,36,37,38,39,40,41,42] (fun (x:Bool) fr=>(43,.bool x) :: fr) (fun x=>x = (decide (k < s.length) && nlB (s.getD k 0))) (by kernel_rfl) (by repeat (first | exact L8 rfl | exact I9 rfl | refine J2 (by kernel_rfl) ?_ | refine G9 ?_ | refine H6 (by kernel_rfl) ?_ | refine I8 (by kernel_rfl) ?_)) ?_ ?_
     ·refine j3 (oA 5 rfl ?_)
      refine l7 rfl rfl rfl (fun g38=>?_) (fun g38=>?_)
      ·try simp only [eqB,ltB,leB,eqS,decide_eq_true_eq,decide_eq_false_iff_not,beq_iff_eq,beq_eq_false_iff_ne,ne_eq,Int.toNat_natCast,Bool.not_eq_true',Bool.not_eq_false'] at g38
       refine oA 2 rfl ?_
       refine d9 rfl rfl (F6 (C8 (by omega)) rfl) ?_
       refine oB 2 rfl ?_
       refine ⟨?_,?_,?_,rfl⟩
       rotate_left 2
       ·(repeat (first | exact Off.refl | refine Off.right rfl ?_ | refine Off.left rfl ?_ | refine Off.over ?_ | refine Off.I7 rfl ?_))
       ·rw [decide_eq_true (show k < s.length by omega),Bool.true_and]; simp only [nlB,eqB,Int.toNat_natCast]; rw [Bool.eq_iff_iff]; simp; omega
      ·try simp only [eqB,ltB,leB,eqS,decide_eq_true_eq,decide_eq_false_iff_not,beq_iff_eq,beq_eq_false_iff_ne,ne_eq,Int.toNat_natCast,Bool.not_eq_true',Bool.not_eq_false'] at g38
       refine oB 5 rfl ?_
       refine ⟨?_,?_,?_,rfl⟩
       rotate_left 2
       ·(repeat (first | exact Off.refl | refine Off.right rfl ?_ | refine Off.left rfl ?_ | refine Off.over ?_ | refine Off.I7 rfl ?_))
       ·rw [decide_eq_false (by omega)]; rfl
     ·intro x hx
      show Ev _ _ _ _ _ ((43,V.bool x) :: _) _ _
      refine q9 rfl (fun g43=>?_) (fun g43=>?_)
      ·replace g43:k < s.length /\ nlB (s.getD k 0) = true:=by
        rw [g43] at hx
        have:=hx.symm
        simp only [Bool.and_eq_true,decide_eq_true_eq] at this
        exact this
       refine j6 ?_
       refine o7 ?_
       refine j3 (oA 1 rfl ?_)
       refine d9 rfl rfl (add1 (by omega)) ?_
       refine oB 1 rfl ?_
       exact ⟨_,_,rfl,ih1 (k + 1) (by omega) ⟨by omega,by rw [<- a18 g43.1 g43.2]; exact hkR⟩⟩
      ·obtain rfl:k = R:=by
        rw [<- hkR]
        rw [g43] at hx
        rcases Nat.lt_or_ge k s.length with h | h
        ·rw [decide_eq_true h,Bool.true_and] at hx
         exact (a5S h hx.symm).symm
        ·exact (a4w h).symm
       refine G5 ?_
       exact ⟨_,_,rfl,ih k (by omega) ⟨hRl,by rw [<- hR,<- a7R g8 g32.1 g32.2]; exact hr⟩⟩
 ·replace g8:s.length <= i:=by simpa [ltN] using g8
  obtain rfl:i = r:=by rw [<- hr,a7S g8]
  refine G5 ?_
  refine eSG (oB 2 rfl ?_)
  exact j5 ⟨_,rfl,rfl⟩
theorem c51 (s:List UInt8) (i:Nat) (hi:i <= s.length) (hs:s.length < 4611686018427387904):E env (.call 49 [.str s,.i i]) [] = some (.ret (.i (D7 u6 s i)) []):=by
 obtain ⟨r,hr⟩:∃ r,D7 u6 s i = r:=⟨_,rfl⟩
 rw [hr]
 refine y9 rfl Tryz.func49 rfl rfl ?_
 refine eSG (oB 1 rfl (j4 ?_))
 refine o7 ?_
 refine J3 rfl ?_
 refine U4 (fun j=>[(0,.str s),(1,.i (j:Nat))]) (fun _=>[]) (fun j=>j <= s.length /\ D7 u6 s j = r) (fun j=>s.length - j) i ⟨hi,hr⟩ ?_
 intro i ⟨hi,hr⟩ ih
 refine j4 ?_
 refine L6 (f:=49) [5,6,7,8,9,10,11,12,13] (fun (x:Bool) fr=>(14,.bool x) :: fr) (fun x=>x = (decide (i < s.length) && u6 (s.getD i 0))) (by kernel_rfl) (by repeat (first | exact L8 rfl | exact I9 rfl | refine J2 (by kernel_rfl) ?_ | refine G9 ?_ | refine H6 (by kernel_rfl) ?_ | refine I8 (by kernel_rfl) ?_)) ?_ ?_
 ·refine j3 (oA 5 rfl ?_)
  refine l7 rfl rfl rfl (fun g9=>?_) (fun g9=>?_)
  ·try simp only [eqB,ltB,leB,eqS,decide_eq_true_eq,decide_eq_false_iff_not,beq_iff_eq,beq_eq_false_iff_ne,ne_eq,Int.toNat_natCast,Bool.not_eq_true',Bool.not_eq_false'] at g9
   refine oA 2 rfl ?_
   refine d9 rfl rfl (F6 (C8 (by omega)) rfl) ?_
   refine o6 rfl rfl rfl rfl rfl (c48 ..) rfl ?_
   refine oB 1 rfl ?_
   refine ⟨?_,?_,?_,rfl⟩
   rotate_left 2
   ·(repeat (first | exact Off.refl | refine Off.right rfl ?_ | refine Off.left rfl ?_ | refine Off.over ?_ | refine Off.I7 rfl ?_))
   ·rw [decide_eq_true (show i < s.length by omega),Bool.true_and]; simp only [Int.toNat_natCast]
  ·try simp only [eqB,ltB,leB,eqS,decide_eq_true_eq,decide_eq_false_iff_not,beq_iff_eq,beq_eq_false_iff_ne,ne_eq,Int.toNat_natCast,Bool.not_eq_true',Bool.not_eq_false'] at g9
   refine oB 5 rfl ?_
   refine ⟨?_,?_,?_,rfl⟩
   rotate_left 2
   ·(repeat (first | exact Off.refl | refine Off.right rfl ?_ | refine Off.left rfl ?_ | refine Off.over ?_ | refine Off.I7 rfl ?_))
   ·rw [decide_eq_false (by omega)]; rfl
 ·intro x hx
  show Ev _ _ _ _ _ ((14,V.bool x) :: _) _ _
  refine q9 rfl (fun g14=>?_) (fun g14=>?_)
  ·replace g14:i < s.length /\ u6 (s.getD i 0) = true:=by
    rw [g14] at hx
    have:=hx.symm
    simp only [Bool.and_eq_true,decide_eq_true_eq] at this
    exact this
   refine j6 ?_
   refine o7 ?_
   refine j3 (oA 1 rfl ?_)
   refine d9 rfl rfl (add1 (by omega)) ?_
   refine oB 1 rfl ?_
   exact ⟨_,_,rfl,ih (i + 1) (by omega) ⟨by omega,by rw [<- a18 g14.1 g14.2]; exact hr⟩⟩
  ·obtain rfl:i = r:=by
    rw [<- hr]
    rw [g14] at hx
    rcases Nat.lt_or_ge i s.length with h | h
    ·rw [decide_eq_true h,Bool.true_and] at hx
     exact (a5S h hx.symm).symm
    ·exact (a4w h).symm
   refine G5 ?_
   refine eSG (oB 2 rfl ?_)
   exact j5 ⟨_,rfl,rfl⟩
theorem c53 (s:List UInt8) (i:Nat) (hi:i <= s.length) (hs:s.length < 4611686018427387904):E env (.call 51 [.str s,.i i]) [] = some (.ret (.i (D7 F9 s i)) []):=by
 obtain ⟨r,hr⟩:∃ r,D7 F9 s i = r:=⟨_,rfl⟩
 rw [hr]
 refine y9 rfl Tryz.func51 rfl rfl ?_
 refine eSG (oB 1 rfl (j4 ?_))
 refine o7 ?_
 refine J3 rfl ?_
 refine U4 (fun j=>[(0,.str s),(1,.i (j:Nat))]) (fun _=>[]) (fun j=>j <= s.length /\ D7 F9 s j = r) (fun j=>s.length - j) i ⟨hi,hr⟩ ?_
 intro i ⟨hi,hr⟩ ih
 refine j4 ?_
 refine L6 (f:=51) [5,6,7,8,9,10,11,12,13,14,15,16,17,18,19] (fun (x:Bool) fr=>(20,.bool x) :: fr) (fun x=>x = (decide (i < s.length) && F9 (s.getD i 0))) (by kernel_rfl) (by repeat (first | exact L8 rfl | exact I9 rfl | refine J2 (by kernel_rfl) ?_ | refine G9 ?_ | refine H6 (by kernel_rfl) ?_ | refine I8 (by kernel_rfl) ?_)) ?_ ?_
 ·refine j3 (oA 5 rfl ?_)
  refine l7 rfl rfl rfl (fun g9=>?_) (fun g9=>?_)
  ·try simp only [eqB,ltB,leB,eqS,decide_eq_true_eq,decide_eq_false_iff_not,beq_iff_eq,beq_eq_false_iff_ne,ne_eq,Int.toNat_natCast,Bool.not_eq_true',Bool.not_eq_false'] at g9
   refine oA 2 rfl ?_
   refine d9 rfl rfl (F6 (C8 (by omega)) rfl) ?_
   refine o6 rfl rfl rfl rfl rfl (c49 ..) rfl ?_
   refine oA 1 rfl ?_
   refine l7 rfl rfl rfl (fun g14=>?_) (fun g14=>?_)
   ·try simp only [eqB,ltB,leB,eqS,decide_eq_true_eq,decide_eq_false_iff_not,beq_iff_eq,beq_eq_false_iff_ne,ne_eq,Int.toNat_natCast,Bool.not_eq_true',Bool.not_eq_false'] at g14
    refine oB 6 rfl ?_
    refine ⟨?_,?_,?_,rfl⟩
    rotate_left 2
    ·(repeat (first | exact Off.refl | refine Off.right rfl ?_ | refine Off.left rfl ?_ | refine Off.over ?_ | refine Off.I7 rfl ?_))
    ·rw [decide_eq_true (show i < s.length by omega),Bool.true_and]; simp only [Int.toNat_natCast] at g14 ⊢; simp only [F9,g14,Bool.true_or]
   ·try simp only [eqB,ltB,leB,eqS,decide_eq_true_eq,decide_eq_false_iff_not,beq_iff_eq,beq_eq_false_iff_ne,ne_eq,Int.toNat_natCast,Bool.not_eq_true',Bool.not_eq_false'] at g14
    refine oA 2 rfl ?_
    refine d9 rfl rfl (F6 (C8 (by omega)) rfl) ?_
    refine o6 rfl rfl rfl rfl rfl (c48 ..) rfl ?_
    refine oB 2 rfl ?_
    refine ⟨?_,?_,?_,rfl⟩
    rotate_left 2
    ·(repeat (first | exact Off.refl | refine Off.right rfl ?_ | refine Off.left rfl ?_ | refine Off.over ?_ | refine Off.I7 rfl ?_))
    ·rw [decide_eq_true (show i < s.length by omega),Bool.true_and]; simp only [Int.toNat_natCast] at g14 ⊢; simp only [F9,g14,Bool.false_or]
  ·try simp only [eqB,ltB,leB,eqS,decide_eq_true_eq,decide_eq_false_iff_not,beq_iff_eq,beq_eq_false_iff_ne,ne_eq,Int.toNat_natCast,Bool.not_eq_true',Bool.not_eq_false'] at g9
   refine oB 11 rfl ?_
   refine ⟨?_,?_,?_,rfl⟩
   rotate_left 2
   ·(repeat (first | exact Off.refl | refine Off.right rfl ?_ | refine Off.left rfl ?_ | refine Off.over ?_ | refine Off.I7 rfl ?_))
   ·rw [decide_eq_false (by omega)]; rfl
 ·intro x hx
  show Ev _ _ _ _ _ ((20,V.bool x) :: _) _ _
  refine q9 rfl (fun g20=>?_) (fun g20=>?_)
  ·replace g20:i < s.length /\ F9 (s.getD i 0) = true:=by
    rw [g20] at hx
    have:=hx.symm
    simp only [Bool.and_eq_true,decide_eq_true_eq] at this
    exact this
   refine j6 ?_
   refine o7 ?_
   refine j3 (oA 1 rfl ?_)
   refine d9 rfl rfl (add1 (by omega)) ?_
   refine oB 1 rfl ?_
   exact ⟨_,_,rfl,ih (i + 1) (by omega) ⟨by omega,by rw [<- a18 g20.1 g20.2]; exact hr⟩⟩
  ·obtain rfl:i = r:=by
    rw [<- hr]
    rw [g20] at hx
    rcases Nat.lt_or_ge i s.length with h | h
    ·rw [decide_eq_true h,Bool.true_and] at hx
     exact (a5S h hx.symm).symm
    ·exact (a4w h).symm
   refine G5 ?_
   refine eSG (oB 2 rfl ?_)
   exact j5 ⟨_,rfl,rfl⟩
theorem c52 (w:List UInt8) (b:Bool) (hb:(ltB 19 w.length || (eqB w.length 19 && !(ltS w O3 || eqS w O3))) = b):E env (.call 50 [.str w]) [] = some (.ret (.bool b) []):=by
 refine y9 rfl Tryz.func50 rfl rfl ?_
 refine eSG (oB 1 rfl (eSG (oB 1 rfl (eSG (oA 6 rfl ?_)))))
 refine l7 rfl rfl rfl (fun g9=>?_) (fun g9=>?_)
 ·refine oB 12 rfl ?_
  obtain rfl:b = true:=by rw [<- hb,show ltB 19 (w.length:Nat) = true from g9]; rfl
  exact j5 ⟨_,rfl,rfl⟩
 ·refine oA 6 rfl ?_
  refine l7 rfl rfl rfl (fun g15=>?_) (fun g15=>?_)
  ·refine oB 6 rfl ?_
   subst hb
   rw [show ltB 19 (w.length:Nat) = false from g9,show eqB (w.length:Nat) 19 = true from g15]
   exact j5 ⟨_,rfl,rfl⟩
  ·refine oB 6 rfl ?_
   subst hb
   rw [show ltB 19 (w.length:Nat) = false from g9,show eqB (w.length:Nat) 19 = false from g15]
   exact j5 ⟨_,rfl,rfl⟩
end Go.Proofs.YtlhgheonlcjpaaaGreat.Sc
namespace Go.Proofs.YtlhgheonlcjpaaaGreat.Sc
open Go Go.Vm
def a1R (x:List UInt8):List (List UInt8) -> Nat -> Int
 | [],_=>-1
 | a :: r,k=>match decide (a = x) with | true=>(k:Int) | false=>a1R x r (k + 1)
theorem a0Z (x:List UInt8):∀ (l:List (List UInt8)) (k:Nat),leB 0 (a1R x l k) = a3s l x
 | [],k=>by simp [a1R,leB,a3s]
 | a :: r,k=>by
  have ih:=a0Z x r (k + 1)
  simp only [a3s,List.any_cons] at ih ⊢
  simp only [a1R]
  cases h:decide (a = x) with
  | true=>simp [leB]
  | false=>simp only [ih]; simp
theorem ldc9 {l:List (List UInt8)} {i:Nat} {H:Hp} (h:i < l.length):Q6 env.T 9 (.cptr ((l.map V.str).drop ((i:Int).toNat * 1))) H = some (.str (l.getD i [])):=by
 show ((l.map V.str).drop ((i:Int).toNat * 1)).head? = _
 simp [h]
theorem a6g {x:List UInt8} {l:List (List UInt8)} {i:Nat} (h:i < l.length):a1R x (l.drop i) i = (match decide (l.getD i [] = x) with | true=>(i:Int) | false=>a1R x (l.drop (i + 1)) (i + 1)):=by
 rw [List.drop_eq_getElem_cons h]; simp only [a1R]; simp [h]
theorem c55 (l:List (List UInt8)) (x:List UInt8) (hl:l.length < 1000000):E env (.call 53 [.slice .sealed l.length (l.map V.str),.str x]) [] = some (.ret (.i (a1R x l 0)) []):=by
 obtain ⟨r,hr⟩:∃ r,a1R x (l.drop 0) 0 = r:=⟨_,rfl⟩
 rw [List.drop_zero] at hr; rw [hr]
 have hr0:a1R x (l.drop 0) 0 = r:=hr
 refine y9 rfl Tryz.func53 rfl rfl ?_
 refine eSG (oB 1 rfl (j4 (eSG (oB 1 rfl ?_))))
 refine o7 ?_
 refine J3 rfl ?_
 refine U4 (fun j=>[(0,.slice .sealed l.length (l.map V.str)),(1,.str x),(5,.i (j:Nat))]) (fun _=>[]) (fun j=>j <= l.length /\ a1R x (l.drop j) j = r) (fun j=>l.length - j) 0 ⟨Nat.zero_le _,hr0⟩ ?_
 intro i ⟨hi,hr⟩ ih
 refine j4 (eSG (oB 4 rfl ?_))
 refine q9 rfl (fun g9=>?_) (fun g9=>?_)
 ·replace g9:i < l.length:=by simpa [ltN] using g9
  refine j6 (j4 ?_)
  refine o7 ?_
  refine eSG (oA 2 rfl ?_)
  refine d9 rfl rfl (F6 (C8 (by omega)) rfl) ?_
  refine F8 rfl rfl rfl (ldc9 g9) ?_
  refine oB 2 rfl ?_
  refine q9 rfl (fun g17=>?_) (fun g17=>?_)
  ·obtain rfl:r = (i:Int):=by
    simp only [eqS,beq_iff_eq] at g17
    rw [<- hr,a6g g9,decide_eq_true g17]
   refine eSG (oB 2 rfl ?_)
   exact j5 ⟨_,rfl,rfl⟩
  ·simp only [eqS,beq_eq_false_iff_ne,ne_eq] at g17
   refine j6 (j3 (oA 1 rfl ?_))
   refine d9 rfl rfl (add1 (by omega)) ?_
   refine oB 1 rfl ?_
   exact ⟨_,_,rfl,ih (i + 1) (by omega) ⟨by omega,by rw [<- hr,a6g g9,decide_eq_false g17]⟩⟩
 ·replace g9:l.length <= i:=by simpa [ltN] using g9
  obtain rfl:r = -1:=by rw [<- hr,List.drop_eq_nil_of_le g9]; rfl
  refine G5 ?_
  refine eSG (oB 1 rfl ?_)
  exact j5 ⟨_,rfl,rfl⟩
theorem c19:E env (.call 68 []) [] = some (.ret (.slice .sealed J8.length (J8.map V.str)) []):=(S9 env).le 5 _ _ _ (by kernel_rfl)
theorem c18:E env (.call 54 []) [] = some (.ret (.slice .sealed M6.length (M6.map V.str)) []):=(S9 env).le 5 _ _ _ (by kernel_rfl)
theorem c50 (s:List UInt8) (i:Nat) (hi:i < s.length) (hs:s.length < 4611686018427387904) (w:List UInt8) (hw:J7 s i 2 = w):E env (.call 48 [.str s,.i i]) [] = some (.ret (.i w.length) []):=by
 have h1:leB ((i + 1:Nat):Int) s.length = true:=by simp only [leB,decide_eq_true_eq]; omega
 simp only [J7,h1,Bool.true_and] at hw
 refine y9 rfl Tryz.func48 rfl rfl ?_
 refine eSG (oB 1 rfl (eSG ?_))
 refine o6 rfl rfl rfl rfl rfl (c19 ..) rfl ?_
 refine oB 1 rfl (j4 ?_)
 refine L6 (f:=48) [7,8,9,10,11,12,13,14,15,16,17,18,19,20] (fun (x:Bool) fr=>(21,.bool x) :: fr) (fun x=>x = (leB ((i + 2:Nat):Int) s.length && a3s J8 ((s.take (i + 2)).drop i))) (by kernel_rfl) (by repeat (first | exact L8 rfl | exact I9 rfl | refine J2 (by kernel_rfl) ?_ | refine G9 ?_ | refine H6 (by kernel_rfl) ?_ | refine I8 (by kernel_rfl) ?_)) ?_ ?_
 ·refine j3 (oA 1 rfl ?_)
  refine d9 rfl rfl (addN (k:=2) (by omega)) ?_
  refine oA 4 rfl ?_
  refine l7 rfl rfl rfl (fun g12=>?_) (fun g12=>?_)
  ·have g12':=g12
   simp only [leB,decide_eq_true_eq] at g12'
   refine oA 4 rfl ?_
   refine d9 rfl rfl (addN (k:=2) (by omega)) ?_
   refine d9 rfl rfl (F6 (V7 (by omega) (by omega)) rfl) ?_
   refine o6 rfl rfl rfl rfl rfl (c55 J8 _ (by decide)) rfl ?_
   refine oB 2 rfl ?_
   refine ⟨?_,?_,?_,rfl⟩
   rotate_left 2
   ·(repeat (first | exact Off.refl | refine Off.right rfl ?_ | refine Off.left rfl ?_ | refine Off.over ?_ | refine Off.I7 rfl ?_))
   ·rw [g12,Bool.true_and]; exact a0Z _ _ _
  ·refine oB 9 rfl ?_
   refine ⟨?_,?_,?_,rfl⟩
   rotate_left 2
   ·(repeat (first | exact Off.refl | refine Off.right rfl ?_ | refine Off.left rfl ?_ | refine Off.over ?_ | refine Off.I7 rfl ?_))
   ·rw [g12]; rfl
 ·intro x hx
  show Ev _ _ _ _ _ ((21,V.bool x) :: _) _ _
  refine q9 rfl (fun g21=>?_) (fun g21=>?_)
  ·obtain rfl:w = (s.take (i + 2)).drop i:=by rw [<- hw,<- hx,g21]
   have hl:((s.take (i + 2)).drop i).length = 2:=by
    rw [g21] at hx
    have:=hx.symm
    simp only [Bool.and_eq_true,leB,decide_eq_true_eq] at this
    rw [List.length_drop,List.length_take]; omega
   rw [hl]
   refine eSG (oB 1 rfl ?_)
   exact j5 ⟨_,rfl,rfl⟩
  ·rw [g21] at hx
   rw [<- hx] at hw
   refine j6 (j4 (eSG (oA 4 rfl ?_)))
   refine d9 rfl rfl (addN (k:=1) (by omega)) ?_
   refine d9 rfl rfl (F6 (V7 (by omega) (by omega)) rfl) ?_
   refine o6 rfl rfl rfl rfl rfl (c55 J8 _ (by decide)) rfl ?_
   refine oB 1 rfl ?_
   refine q9 rfl (fun g29=>?_) (fun g29=>?_)
   ·replace g29:a3s J8 ((s.take (i + 1)).drop i) = true:=(a0Z _ _ _).symm.trans g29
    obtain rfl:w = (s.take (i + 1)).drop i:=by rw [<- hw]; simp only [g29]
    have hl:((s.take (i + 1)).drop i).length = 1:=by rw [List.length_drop,List.length_take]; omega
    rw [hl]
    refine eSG (oB 1 rfl ?_)
    exact j5 ⟨_,rfl,rfl⟩
   ·replace g29:a3s J8 ((s.take (i + 1)).drop i) = false:=(a0Z _ _ _).symm.trans g29
    obtain rfl:w = []:=by rw [<- hw]; simp only [g29]
    refine j6 (eSG (oB 1 rfl ?_))
    exact j5 ⟨_,rfl,rfl⟩
theorem c28 (s:List UInt8) (i:Nat) (hi:i < s.length) (hs:s.length < 4611686018427387904) (b:Bool) (hb:(decide ((s.getD i 0).toNat = 34) || u6 (s.getD i 0) || G7 (s.getD i 0) || decide (J7 s i 2 ≠ [])) = b):E env (.call 26 [.str s,.i i]) [] = some (.ret (.bool b) []):=by
 refine y9 rfl Tryz.func26 rfl rfl ?_
 refine eSG (oB 1 rfl (eSG (oA 2 rfl ?_)))
 refine d9 rfl rfl (F6 (C8 (by omega)) rfl) ?_
 refine oA 2 rfl ?_
 refine l7 rfl rfl rfl (fun g9=>?_) (fun g9=>?_)
 ·replace g9:(s.getD i 0).toNat = 34:=by simp only [eqB,Int.toNat_natCast,beq_iff_eq] at g9; omega
  refine oB 18 rfl ?_
  obtain rfl:b = true:=by rw [<- hb,decide_eq_true g9]; rfl
  exact j5 ⟨_,rfl,rfl⟩
 ·replace g9:(s.getD i 0).toNat ≠ 34:=by simp only [eqB,Int.toNat_natCast,beq_eq_false_iff_ne,ne_eq] at g9; omega
  refine oA 2 rfl ?_
  refine d9 rfl rfl (F6 (C8 (by omega)) rfl) ?_
  refine o6 rfl rfl rfl rfl rfl (c48 ..) rfl ?_
  refine oA 2 rfl ?_
  refine l7 rfl rfl rfl (fun g15=>?_) (fun g15=>?_)
  ·simp only [Int.toNat_natCast] at g15
   refine oB 12 rfl ?_
   obtain rfl:b = true:=by rw [<- hb,g15]; simp
   exact j5 ⟨_,rfl,rfl⟩
  ·simp only [Int.toNat_natCast] at g15
   refine oA 2 rfl ?_
   refine d9 rfl rfl (F6 (C8 (by omega)) rfl) ?_
   refine o6 rfl rfl rfl rfl rfl (c49 ..) rfl ?_
   refine oA 2 rfl ?_
   refine l7 rfl rfl rfl (fun g21=>?_) (fun g21=>?_)
   ·simp only [Int.toNat_natCast] at g21
    refine oB 6 rfl ?_
    obtain rfl:b = true:=by rw [<- hb,g21]; simp
    exact j5 ⟨_,rfl,rfl⟩
   ·simp only [Int.toNat_natCast] at g21
    refine oA 2 rfl ?_
    refine o6 rfl rfl rfl rfl rfl (c50 s i hi hs _ rfl) rfl ?_
    refine oB 3 rfl ?_
    subst hb
    rw [decide_eq_false g9,g15,g21]
    have:ltB 0 ((J7 s i 2).length:Nat) = (false || false || false || decide (J7 s i 2 ≠ [])):=by
     simp only [ltB]; rw [Bool.eq_iff_iff]; simp [List.length_pos_iff]
    rw [<- this]
    exact j5 ⟨_,rfl,rfl⟩
end Go.Proofs.YtlhgheonlcjpaaaGreat.Sc
namespace Go.Proofs.YtlhgheonlcjpaaaGreat.Sc
open Go Go.Vm
def a4o:Option Tok -> Int -> Nat -> V
 | some t,_,_=>.tuple [.agg (a2X t.k t.t t.a t.l),.agg [.i 0,.i 0]]
 | none,c,a=>.tuple [.agg [.i 0,.str [],.i 0,.i 0],.agg [.i c,.i (a:Int)]]
def a3v (s:List UInt8) (i:Nat):V :=
 match u6 (s.getD i 0) with
 | true=>match E9 ((s.take (D7 u6 s i)).drop i) (s.getD (D7 u6 s i) 0) with
  | true=>a4o none 13 i
  | false=>a4o (some ⟨3,(s.take (D7 u6 s i)).drop i,i,D7 u6 s i - i⟩) 0 0
 | false=>match G7 (s.getD i 0) with
  | true=>match ltB 24 ((s.take (D7 F9 s i)).drop i).length with
   | true=>a4o none 14 i
   | false=>a4o (some ⟨V8 ((s.take (D7 F9 s i)).drop i),(s.take (D7 F9 s i)).drop i,i,D7 F9 s i - i⟩) 0 0
  | false=>match J7 s i 2 with
   | []=>a4o none 10 i
   | w=>a4o (some ⟨8,w,i,w.length⟩) 0 0
theorem signK_eq {s:List UInt8} {i:Nat} {w:List UInt8} (h:J7 s i 2 = w) (hi:i < s.length):w = (s.take (i + w.length)).drop i:=by
 have h1:leB ((i + 1:Nat):Int) s.length = true:=by simp only [leB,decide_eq_true_eq]; omega
 simp only [J7,h1,Bool.true_and] at h
 split at h
 ·rename_i hx
  simp only [Bool.and_eq_true,leB,decide_eq_true_eq] at hx
  have hl:((s.take (i + 2)).drop i).length = 2:=by rw [List.length_drop,List.length_take]; omega
  rw [<- h]
  show _ = (s.take (i + ((s.take (i + 2)).drop i).length)).drop i
  rw [hl]
 ·split at h
  ·have hl:((s.take (i + 1)).drop i).length = 1:=by rw [List.length_drop,List.length_take]; omega
   rw [<- h]
   show _ = (s.take (i + ((s.take (i + 1)).drop i).length)).drop i
   rw [hl]
  ·subst h; simp
section
variable {w:List UInt8} {nx:UInt8}
theorem bad_eq:E9 w nx = ((ltB 1 w.length && eqB (w.getD 0 0).toNat 48) || (ltB 19 w.length || (eqB w.length 19 && !(ltS w O3 || eqS w O3))) || G7 nx):=by
 unfold E9; simp only [Bool.or_assoc]
theorem bad1 (h1:ltB 1 w.length = true) (h2:eqB (w.getD 0 0).toNat 48 = true):E9 w nx = true:=by rw [bad_eq,h1,h2]; rfl
theorem bad2 (h1:ltB 1 w.length = true) (h2:eqB (w.getD 0 0).toNat 48 = false) (h3:(ltB 19 w.length || (eqB w.length 19 && !(ltS w O3 || eqS w O3))) = true):E9 w nx = true:=by rw [bad_eq,h1,h2,h3]; rfl
theorem bad3 (h1:ltB 1 w.length = true) (h2:eqB (w.getD 0 0).toNat 48 = false) (h3:(ltB 19 w.length || (eqB w.length 19 && !(ltS w O3 || eqS w O3))) = false):E9 w nx = G7 nx:=by rw [bad_eq,h1,h2,h3]; rfl
theorem bad5 (h1:ltB 1 w.length = false) (h3:(ltB 19 w.length || (eqB w.length 19 && !(ltS w O3 || eqS w O3))) = true):E9 w nx = true:=by rw [bad_eq,h1,h3]; rfl
theorem bad6 (h1:ltB 1 w.length = false) (h3:(ltB 19 w.length || (eqB w.length 19 && !(ltS w O3 || eqS w O3))) = false):E9 w nx = G7 nx:=by rw [bad_eq,h1,h3]; rfl
theorem a6r {s:List UInt8} {r:Nat} (h:s.length <= r):G7 (s.getD r 0) = false:=by rw [a4i h]; rfl
theorem bad4 {s:List UInt8} {r:Nat} (h1:ltB 1 w.length = true) (h2:eqB (w.getD 0 0).toNat 48 = false) (h3:(ltB 19 w.length || (eqB w.length 19 && !(ltS w O3 || eqS w O3))) = false) (h:s.length <= r):E9 w (s.getD r 0) = false:=by rw [bad3 h1 h2 h3,a6r h]
theorem bad7 {s:List UInt8} {r:Nat} (h1:ltB 1 w.length = false) (h3:(ltB 19 w.length || (eqB w.length 19 && !(ltS w O3 || eqS w O3))) = false) (h:s.length <= r):E9 w (s.getD r 0) = false:=by rw [bad6 h1 h3,a6r h]
theorem cap1 {b:UInt8} (h:capB b = true):(match leB 65 b.toNat && leB b.toNat 90 with | true=>2 | false=>(1:Int)) = 2:=by
 have:(leB 65 b.toNat && leB b.toNat 90) = true:=by rw [<- h,<- a8m]; rfl
 rw [this]
theorem cap2 {b:UInt8} (h:capB b = false):(match leB 65 b.toNat && leB b.toNat 90 with | true=>2 | false=>(1:Int)) = 1:=by
 have:(leB 65 b.toNat && leB b.toNat 90) = false:=by rw [<- h,<- a8m]; rfl
 rw [this]
end
theorem c30 (s:List UInt8) (i:Nat) (hi:i < s.length) (hs:s.length < 4611686018427387904):E env (.call 28 [.str s,.i i]) [] = some (.ret (a3v s i) []):=by
 have hi1:i <= s.length:=by omega
 refine y9 rfl Tryz.func28 rfl rfl ?_
 refine eSG (oB 2 rfl (eSG (oA 2 rfl ?_)))
 refine d9 rfl rfl (F6 (C8 (by omega)) rfl) ?_
 refine oB 1 rfl (j4 (eSG (oA 1 rfl ?_)))
 refine o6 rfl rfl rfl rfl rfl (c48 ..) rfl ?_
 refine o5 ?_
 refine q9 rfl (fun g17=>?_) (fun g17=>?_)
 ·simp only [Int.toNat_natCast] at g17
  obtain ⟨r,hr⟩:∃ r,D7 u6 s i = r:=⟨_,rfl⟩
  obtain ⟨w,hw⟩:∃ w,(s.take r).drop i = w:=⟨_,rfl⟩
  have hrg:i < r:=by rw [<- hr]; exact a0B hi g17
  have hrle:r <= s.length:=by rw [<- hr]; exact Z8 hi1
  have hwl:w.length = r - i:=by rw [<- hw,List.length_drop,List.length_take]; omega
  have hw0:w.getD 0 0 = s.getD i 0:=by
   rw [<- hw,List.getD_eq_getElem?_getD,List.getElem?_drop,Nat.add_zero,List.getElem?_take_of_lt (by omega),<- List.getD_eq_getElem?_getD]
  have hR:a3v s i = (match E9 w (s.getD r 0) with | true=>a4o none 13 i | false=>a4o (some ⟨3,w,i,r - i⟩) 0 0):=by
   unfold a3v; simp only [g17,hr,hw]
  rw [hR]
  have h51:=c51 s i hi1 hs
  rw [hr] at h51
  refine eSG (oA 2 rfl ?_)
  refine o6 rfl rfl rfl rfl rfl (h51) rfl ?_
  refine oB 1 rfl (eSG (oA 3 rfl ?_))
  refine d9 rfl rfl (F6 (V7 (by omega) (by omega)) (show R6 (some (.str ((s.take (r:Int).toNat).drop (i:Int).toNat))) = some (.str w) by rw [<- hw]; rfl)) ?_
  refine oB 1 rfl (j4 ?_)
  refine L6 (f:=28) [25,26,27,28,29,30,31,32,33,34,35,36,37,38,39,40,41,42,43,44,45,46] (fun (x:Bool) fr=>(47,.bool x) :: fr) (fun x=>x = E9 w (s.getD r 0)) (by kernel_rfl) (by repeat (first | exact L8 rfl | exact I9 rfl | refine J2 (by kernel_rfl) ?_ | refine G9 ?_ | refine H6 (by kernel_rfl) ?_ | refine I8 (by kernel_rfl) ?_)) ?_ ?_
  ·refine j3 (oA 4 rfl ?_)
   refine l7 rfl rfl rfl (fun g28=>?_) (fun g28=>?_)
   ·refine oA 4 rfl ?_
    refine l7 rfl rfl rfl (fun g32=>?_) (fun g32=>?_)
    ·refine oB 15 rfl ?_
     refine ⟨?_,?_,?_,rfl⟩
     rotate_left 2
     ·(repeat (first | exact Off.refl | refine Off.right rfl ?_ | refine Off.left rfl ?_ | refine Off.over ?_ | refine Off.I7 rfl ?_))
     ·exact (bad1 g28 (by rw [hw0]; exact g32)).symm
    ·refine oA 1 rfl ?_
     refine o6 rfl rfl rfl rfl rfl (c52 w _ rfl) rfl ?_
     refine oA 2 rfl ?_
     refine l7 rfl rfl rfl (fun g36=>?_) (fun g36=>?_)
     ·refine oB 11 rfl ?_
      refine ⟨?_,?_,?_,rfl⟩
      rotate_left 2
      ·(repeat (first | exact Off.refl | refine Off.right rfl ?_ | refine Off.left rfl ?_ | refine Off.over ?_ | refine Off.I7 rfl ?_))
      ·exact (bad2 g28 (by rw [hw0]; exact g32) g36).symm
     ·refine oA 5 rfl ?_
      refine l7 rfl rfl rfl (fun g41=>?_) (fun g41=>?_)
      ·have g41':=g41
       simp only [ltB,decide_eq_true_eq] at g41'
       refine oA 2 rfl ?_
       refine d9 rfl rfl (F6 (C8 (by omega)) rfl) ?_
       refine o6 rfl rfl rfl rfl rfl (c49 ..) rfl ?_
       refine oB 2 rfl ?_
       refine ⟨?_,?_,?_,rfl⟩
       rotate_left 2
       ·(repeat (first | exact Off.refl | refine Off.right rfl ?_ | refine Off.left rfl ?_ | refine Off.over ?_ | refine Off.I7 rfl ?_))
       ·exact (bad3 g28 (by rw [hw0]; exact g32) g36).symm
      ·have g41':=g41
       simp only [ltB,decide_eq_false_iff_not] at g41'
       refine oB 6 rfl ?_
       refine ⟨?_,?_,?_,rfl⟩
       rotate_left 2
       ·(repeat (first | exact Off.refl | refine Off.right rfl ?_ | refine Off.left rfl ?_ | refine Off.over ?_ | refine Off.I7 rfl ?_))
       ·exact (bad4 g28 (by rw [hw0]; exact g32) g36 (by omega)).symm
   ·refine oA 5 rfl ?_
    refine o6 rfl rfl rfl rfl rfl (c52 w _ rfl) rfl ?_
    refine oA 2 rfl ?_
    refine l7 rfl rfl rfl (fun g36=>?_) (fun g36=>?_)
    ·refine oB 11 rfl ?_
     refine ⟨?_,?_,?_,rfl⟩
     rotate_left 2
     ·(repeat (first | exact Off.refl | refine Off.right rfl ?_ | refine Off.left rfl ?_ | refine Off.over ?_ | refine Off.I7 rfl ?_))
     ·exact (bad5 g28 g36).symm
    ·refine oA 5 rfl ?_
     refine l7 rfl rfl rfl (fun g41=>?_) (fun g41=>?_)
     ·have g41':=g41
      simp only [ltB,decide_eq_true_eq] at g41'
      refine oA 2 rfl ?_
      refine d9 rfl rfl (F6 (C8 (by omega)) rfl) ?_
      refine o6 rfl rfl rfl rfl rfl (c49 ..) rfl ?_
      refine oB 2 rfl ?_
      refine ⟨?_,?_,?_,rfl⟩
      rotate_left 2
      ·(repeat (first | exact Off.refl | refine Off.right rfl ?_ | refine Off.left rfl ?_ | refine Off.over ?_ | refine Off.I7 rfl ?_))
      ·exact (bad6 g28 g36).symm
     ·have g41':=g41
      simp only [ltB,decide_eq_false_iff_not] at g41'
      refine oB 6 rfl ?_
      refine ⟨?_,?_,?_,rfl⟩
      rotate_left 2
      ·(repeat (first | exact Off.refl | refine Off.right rfl ?_ | refine Off.left rfl ?_ | refine Off.over ?_ | refine Off.I7 rfl ?_))
      ·exact (bad7 g28 g36 (by omega)).symm
  ·intro x hx
   show Ev _ _ _ _ _ ((47,V.bool x) :: _) _ _
   refine q9 rfl (fun g47=>?_) (fun g47=>?_)
   ·rw [<- hx,g47]
    refine eSG ?_
    refine oD ?_
    refine oA 1 rfl ?_
    refine oD ?_
    refine oB 2 rfl ?_
    exact j5 ⟨_,rfl,rfl⟩
   ·rw [<- hx,g47]
    refine j6 (eSG (oA 4 rfl ?_))
    refine d9 rfl rfl (subN (by omega) (by omega)) ?_
    refine oD ?_
    refine oD ?_
    refine oB 2 rfl ?_
    exact j5 ⟨_,rfl,rfl⟩
 ·simp only [Int.toNat_natCast] at g17
  refine j6 (j4 (eSG (oA 1 rfl ?_)))
  refine o6 rfl rfl rfl rfl rfl (c49 ..) rfl ?_
  refine o5 ?_
  refine q9 rfl (fun g59=>?_) (fun g59=>?_)
  ·simp only [Int.toNat_natCast] at g59
   obtain ⟨r,hr⟩:∃ r,D7 F9 s i = r:=⟨_,rfl⟩
   obtain ⟨w,hw⟩:∃ w,(s.take r).drop i = w:=⟨_,rfl⟩
   have hrg:i < r:=by rw [<- hr]; exact a0B hi (by simp only [F9,g59,Bool.true_or])
   have hrle:r <= s.length:=by rw [<- hr]; exact Z8 hi1
   have hwl:w.length = r - i:=by rw [<- hw,List.length_drop,List.length_take]; omega
   have hw0:w.getD 0 0 = s.getD i 0:=by
    rw [<- hw,List.getD_eq_getElem?_getD,List.getElem?_drop,Nat.add_zero,List.getElem?_take_of_lt (by omega),<- List.getD_eq_getElem?_getD]
   have hR:a3v s i = (match ltB 24 w.length with | true=>a4o none 14 i | false=>a4o (some ⟨V8 w,w,i,r - i⟩) 0 0):=by
    unfold a3v; simp only [g17,g59,hr,hw]
   rw [hR]
   have h53:=c53 s i hi1 hs
   rw [hr] at h53
   refine eSG (oA 2 rfl ?_)
   refine o6 rfl rfl rfl rfl rfl (h53) rfl ?_
   refine oB 1 rfl (eSG (oA 3 rfl ?_))
   refine d9 rfl rfl (F6 (V7 (by omega) (by omega)) (show R6 (some (.str ((s.take (r:Int).toNat).drop (i:Int).toNat))) = some (.str w) by rw [<- hw]; rfl)) ?_
   refine oB 1 rfl (j4 (eSG (oB 3 rfl ?_)))
   refine q9 rfl (fun g69=>?_) (fun g69=>?_)
   ·rw [show ltB 24 (w.length:Nat) = true from g69]
    refine eSG ?_
    refine oD ?_
    refine oA 1 rfl ?_
    refine oD ?_
    refine oB 2 rfl ?_
    exact j5 ⟨_,rfl,rfl⟩
   ·rw [show ltB 24 (w.length:Nat) = false from g69]
    refine j6 (eSG (oB 1 rfl ?_))
    refine L6 (f:=28) [73,74] (fun (x:Int) fr=>(11,.i x) :: fr) (fun x=>x = (match leB 65 (w.getD 0 0).toNat && leB (w.getD 0 0).toNat 90 with | true=>2 | false=>1)) (by kernel_rfl) (by repeat (first | exact L8 rfl | exact I9 rfl | refine J2 (by kernel_rfl) ?_ | refine G9 ?_ | refine H6 (by kernel_rfl) ?_ | refine I8 (by kernel_rfl) ?_)) ?_ ?_
    ·refine eSG (oA 1 rfl ?_)
     refine o6 rfl rfl rfl rfl rfl (c54 ..) rfl ?_
     refine o5 ?_
     refine q9 rfl (fun g74=>?_) (fun g74=>?_)
     ·refine j3 (oB 1 rfl ?_)
      refine ⟨(2:Int),?_,?_,rfl⟩
      rotate_left 1
      ·(repeat (first | exact Off.refl | refine Off.right rfl ?_ | refine Off.left rfl ?_ | refine Off.over ?_ | refine Off.I7 rfl ?_))
      ·exact (cap1 (by rw [hw0]; exact g74)).symm
     ·refine j6 ?_
      refine ⟨(1:Int),?_,?_,rfl⟩
      rotate_left 1
      ·(repeat (first | exact Off.refl | refine Off.right rfl ?_ | refine Off.left rfl ?_ | refine Off.over ?_ | refine Off.I7 rfl ?_))
      ·exact (cap2 (by rw [hw0]; exact g74)).symm
    ·intro x hx
     show Ev _ _ _ _ _ ((11,V.i x) :: _) _ _
     refine j4 (eSG ?_)
     refine o6 rfl rfl rfl rfl rfl (c18 ..) rfl ?_
     refine oA 1 rfl ?_
     refine o6 rfl rfl rfl rfl rfl (c55 M6 w (by decide)) rfl ?_
     refine oB 1 rfl ?_
     refine q9 rfl (fun g78=>?_) (fun g78=>?_)
     ·have hk:V8 w = 9:=by unfold V8; rw [<- a0Z w M6 0,show leB 0 (a1R w M6 0) = true from g78]
      rw [hk]
      refine j3 (oB 1 rfl (eSG (oA 5 rfl ?_)))
      refine d9 rfl rfl (subN (by omega) (by omega)) ?_
      refine oD ?_
      refine oD ?_
      refine oB 2 rfl ?_
      exact j5 ⟨_,rfl,rfl⟩
     ·have hk:V8 w = x:=by unfold V8; rw [<- a0Z w M6 0,show leB 0 (a1R w M6 0) = false from g78,hx]; rfl
      rw [hk]
      refine j6 (eSG (oA 5 rfl ?_))
      refine d9 rfl rfl (subN (by omega) (by omega)) ?_
      refine oD ?_
      refine oD ?_
      refine oB 2 rfl ?_
      exact j5 ⟨_,rfl,rfl⟩
  ·simp only [Int.toNat_natCast] at g59
   obtain ⟨w,hw⟩:∃ w,J7 s i 2 = w:=⟨_,rfl⟩
   have hwl:=a3r 2 hi1
   rw [hw] at hwl
   have hwe:=signK_eq hw hi
   have h50:=c50 s i hi hs w hw
   refine j6 (j4 (eSG (oA 2 rfl ?_)))
   refine o6 rfl rfl rfl rfl rfl (h50) rfl ?_
   refine oB 1 rfl (eSG (oB 2 rfl ?_))
   refine q9 rfl (fun g91=>?_) (fun g91=>?_)
   ·have hne:w ≠ []:=by
     intro e; rw [e] at g91; simp [ltB] at g91
    have hR:a3v s i = a4o (some ⟨8,w,i,w.length⟩) 0 0:=by
     unfold a3v; simp only [g17,g59,hw]
    rw [hR]
    refine eSG (oA 4 rfl ?_)
    refine d9 rfl rfl (addN (by omega)) ?_
    refine d9 rfl rfl (F6 (V7 (by omega) (by omega)) (show some (V.str ((s.take (i + w.length)).drop i)) = some (.str w) by rw [<- hwe])) ?_
    refine oA 2 rfl ?_
    refine oD ?_
    refine oD ?_
    refine oB 2 rfl ?_
    exact j5 ⟨_,rfl,rfl⟩
   ·have hne:w = []:=by
     cases w with
     | nil=>rfl
     | cons a l=>simp [ltB] at g91
    have hR:a3v s i = a4o none 10 i:=by
     unfold a3v; simp only [g17,g59,hw,hne]
    rw [hR]
    refine j6 (eSG ?_)
    refine oD ?_
    refine oA 1 rfl ?_
    refine oD ?_
    refine oB 2 rfl ?_
    exact j5 ⟨_,rfl,rfl⟩
end Go.Proofs.YtlhgheonlcjpaaaGreat.Sc
namespace Go.Proofs.YtlhgheonlcjpaaaGreat.Sc
open Go Go.Vm
structure PS where
 j:Nat
 text:List UInt8
 w:Nat
def partV:PR -> V
 | .err c a=>.tuple [.agg [.str [],.i 0,.bool false],.agg [.i c,.i (a:Int)]]
 | .fin t e=>.tuple [.agg [.str t,.i (e:Int),.bool false],.agg [.i 0,.i 0]]
 | .more t e=>.tuple [.agg [.str t,.i (e:Int),.bool true],.agg [.i 0,.i 0]]
theorem c29 (s:List UInt8) (q i ins:Nat) (hi:i <= s.length) (hs:s.length <= 100000):E env (.call 27 [.str s,.i q,.i i,.i ins]) [] = some (.ret (partV (part s q ins i [])) []):=by
 obtain ⟨R,hR⟩:∃ R,part s q ins i [] = R:=⟨_,rfl⟩
 rw [hR]
 refine y9 rfl Tryz.func27 rfl rfl ?_
 refine eSG (oB 2 rfl (eSG (oB 1 rfl (j4 ?_))))
 refine o7 ?_
 refine J3 rfl ?_
 refine U4 (fun x:PS=>[(0,.str s),(1,.i (q:Nat)),(2,.i (x.j:Nat)),(3,.i (ins:Nat)),(8,.ptr 0 0),(9,.ptr 1 0),(10,.slice (.tag 2) x.text.length (H9 x.text))]) (fun x=>[(0,.row [.str [],.i 0,.bool false]),(1,.row [.i 0,.i 0]),(2,.tip x.w x.text.length)]) (fun x=>x.j <= s.length /\ x.text.length <= x.j /\ (x.w = 0 ∨ x.w = 1) /\ part s q ins x.j x.text = R) (fun x=>s.length - x.j) ⟨i,[],0⟩ ⟨hi,Nat.zero_le _,.inl rfl,hR⟩ ?_
 intro ⟨j,text,w⟩ ⟨hj,htj,hw,hR⟩ ih
 simp only at hj htj hw hR ih
 show Ev _ _ _ _ _ [(0,.str s),(1,.i (q:Nat)),(2,.i (j:Nat)),(3,.i (ins:Nat)),(8,.ptr 0 0),(9,.ptr 1 0),(10,.slice (.tag 2) text.length (H9 text))] [(0,.row [.str [],.i 0,.bool false]),(1,.row [.i 0,.i 0]),(2,.tip w text.length)] _
 refine j4 ?_
 refine L6 (f:=27) [13,14,15,16,17,18,19,20,21] (fun (x:Bool) fr=>(22,.bool x) :: fr) (fun x=>x = (decide (j < s.length) && decide (32 <= (s.getD j 0).toNat))) (by kernel_rfl) (by repeat (first | exact L8 rfl | exact I9 rfl | refine J2 (by kernel_rfl) ?_ | refine G9 ?_ | refine H6 (by kernel_rfl) ?_ | refine I8 (by kernel_rfl) ?_)) ?_ ?_
 ·refine j3 (oA 5 rfl ?_)
  refine l7 rfl rfl rfl (fun g17=>?_) (fun g17=>?_)
  ·try simp only [eqB,ltB,leB,eqS,decide_eq_true_eq,decide_eq_false_iff_not,beq_iff_eq,beq_eq_false_iff_ne,ne_eq,Int.toNat_natCast,Bool.not_eq_true',Bool.not_eq_false'] at g17
   refine oA 2 rfl ?_
   refine d9 rfl rfl (F6 (C8 (by omega)) rfl) ?_
   refine oB 2 rfl ?_
   refine ⟨?_,?_,?_,rfl⟩
   rotate_left 2
   ·(repeat (first | exact Off.refl | refine Off.right rfl ?_ | refine Off.left rfl ?_ | refine Off.over ?_ | refine Off.I7 rfl ?_))
   ·rw [decide_eq_true (show j < s.length by omega),Bool.true_and]; simp only [leB,Int.toNat_natCast]; rw [Bool.eq_iff_iff]; simp; omega
  ·try simp only [eqB,ltB,leB,eqS,decide_eq_true_eq,decide_eq_false_iff_not,beq_iff_eq,beq_eq_false_iff_ne,ne_eq,Int.toNat_natCast,Bool.not_eq_true',Bool.not_eq_false'] at g17
   refine oB 5 rfl ?_
   refine ⟨?_,?_,?_,rfl⟩
   rotate_left 2
   ·(repeat (first | exact Off.refl | refine Off.right rfl ?_ | refine Off.left rfl ?_ | refine Off.over ?_ | refine Off.I7 rfl ?_))
   ·rw [decide_eq_false (by omega)]; rfl
 ·intro x hx
  show Ev _ _ _ _ _ ((22,V.bool x) :: _) _ _
  refine q9 rfl (fun g22=>?_) (fun g22=>?_)
  ·rw [g22] at hx
   have hx2:=hx.symm
   simp only [Bool.and_eq_true,decide_eq_true_eq] at hx2
   obtain ⟨h1,h2⟩:=hx2
   refine j6 ?_
   refine o7 ?_
   refine eSG (oA 2 rfl ?_)
   refine d9 rfl rfl (F6 (C8 (by omega)) rfl) ?_
   refine oB 1 rfl (j4 (eSG (oB 2 rfl ?_)))
   refine q9 rfl (fun g27=>?_) (fun g27=>?_)
   ·try simp only [eqB,ltB,leB,eqS,decide_eq_true_eq,decide_eq_false_iff_not,beq_iff_eq,beq_eq_false_iff_ne,ne_eq,Int.toNat_natCast,Bool.not_eq_true',Bool.not_eq_false'] at g27
    refine eSG (oA 1 rfl ?_)
    refine a1y rfl rfl rfl (a3e text) ?_
    refine oA 1 rfl ?_
    refine d9 rfl rfl (add1 (by omega)) ?_
    refine oD ?_
    refine oD ?_
    refine oB 2 rfl ?_
    rw [<- hR,a6F h1 h2 (by omega)]
    exact j5 ⟨_,rfl,rfl⟩
   ·try simp only [eqB,ltB,leB,eqS,decide_eq_true_eq,decide_eq_false_iff_not,beq_iff_eq,beq_eq_false_iff_ne,ne_eq,Int.toNat_natCast,Bool.not_eq_true',Bool.not_eq_false'] at g27
    refine j6 (j4 (eSG (oB 2 rfl ?_)))
    refine q9 rfl (fun g35=>?_) (fun g35=>?_)
    ·try simp only [eqB,ltB,leB,eqS,decide_eq_true_eq,decide_eq_false_iff_not,beq_iff_eq,beq_eq_false_iff_ne,ne_eq,Int.toNat_natCast,Bool.not_eq_true',Bool.not_eq_false'] at g35
     refine eSG (oA 3 rfl ?_)
     refine K7 rfl rfl rfl rfl rfl rfl rfl rfl rfl rfl rfl (a0W (J6 rfl) rfl) rfl rfl hw rfl (U0 text).symm (by show (text.length + 1) * 2 <= _; omega) (a0l text (s.getD j 0)) (O7 text (s.getD j 0)) rfl ?_
     refine oB 1 rfl (eSG (oA 1 rfl ?_))
     refine d9 rfl rfl (add1 (by omega)) ?_
     refine oB 1 rfl ?_
     refine G5 ?_
     exact ⟨_,_,rfl,ih ⟨j + 1,text ++ [s.getD j 0],1⟩ (by show s.length - (j + 1) < s.length - j; omega) ⟨by show j + 1 <= s.length; omega,by show List.length (text ++ [s.getD j 0]) <= j + 1; simp only [List.length_append,List.length_cons,List.length_nil]; omega,.inr rfl,by show part s q ins (j + 1) (text ++ [s.getD j 0]) = R; rw [<- hR,a4Y h1 h2 (by omega) (by omega)]⟩⟩
    ·try simp only [eqB,ltB,leB,eqS,decide_eq_true_eq,decide_eq_false_iff_not,beq_iff_eq,beq_eq_false_iff_ne,ne_eq,Int.toNat_natCast,Bool.not_eq_true',Bool.not_eq_false'] at g35
     refine j6 (eSG (oB 1 rfl ?_))
     refine L6 (f:=27) [42,43,44,45,46,47,48,49,50] (fun (x:Nat) fr=>(12,.int .u8 (x:Nat)) :: fr) (fun x=>x = (s.getD (j + 1) 0).toNat /\ (x ≠ 0 -> j + 1 < s.length)) (by kernel_rfl) (by repeat (first | exact L8 rfl | exact I9 rfl | refine J2 (by kernel_rfl) ?_ | refine G9 ?_ | refine H6 (by kernel_rfl) ?_ | refine I8 (by kernel_rfl) ?_)) ?_ ?_
     ·refine eSG (oA 1 rfl ?_)
      refine d9 rfl rfl (add1 (by omega)) ?_
      refine oB 3 rfl ?_
      refine q9 rfl (fun g46=>?_) (fun g46=>?_)
      ·try simp only [eqB,ltB,leB,eqS,decide_eq_true_eq,decide_eq_false_iff_not,beq_iff_eq,beq_eq_false_iff_ne,ne_eq,Int.toNat_natCast,Bool.not_eq_true',Bool.not_eq_false'] at g46
       refine j3 (oA 2 rfl ?_)
       refine d9 rfl rfl (add1 (by omega)) ?_
       refine d9 rfl rfl (F6 (C8 (by omega)) rfl) ?_
       refine oB 1 rfl ?_
       refine ⟨((s.getD (j + 1) 0).toNat),?_,?_,rfl⟩
       rotate_left 1
       ·(repeat (first | exact Off.refl | refine Off.right rfl ?_ | refine Off.left rfl ?_ | refine Off.over ?_ | refine Off.I7 rfl ?_))
       ·exact ⟨rfl,fun _=>by omega⟩
      ·try simp only [eqB,ltB,leB,eqS,decide_eq_true_eq,decide_eq_false_iff_not,beq_iff_eq,beq_eq_false_iff_ne,ne_eq,Int.toNat_natCast,Bool.not_eq_true',Bool.not_eq_false'] at g46
       refine j6 ?_
       refine ⟨0,?_,?_,rfl⟩
       rotate_left 1
       ·(repeat (first | exact Off.refl | refine Off.right rfl ?_ | refine Off.left rfl ?_ | refine Off.over ?_ | refine Off.I7 rfl ?_))
       ·exact ⟨by rw [a4i (show s.length <= j + 1 by omega)]; rfl,fun h=>absurd rfl h⟩
     ·intro x ⟨hx0,hxl⟩
      show Ev _ _ _ _ _ ((12,V.int .u8 (x:Nat)) :: _) _ _
      refine j4 (eSG (oB 1 rfl ?_))
      refine o7 ?_
      refine eSG (oB 2 rfl ?_)
      refine q9 rfl (fun g55=>?_) (fun g55=>?_)
      ·try simp only [eqB,ltB,leB,eqS,decide_eq_true_eq,decide_eq_false_iff_not,beq_iff_eq,beq_eq_false_iff_ne,ne_eq,Int.toNat_natCast,Bool.not_eq_true',Bool.not_eq_false'] at g55
       refine j3 (oA 2 rfl ?_)
       refine K7 rfl rfl rfl rfl rfl rfl rfl rfl rfl rfl rfl (a0W (J6 rfl) rfl) rfl rfl hw rfl (U0 text).symm (by show (text.length + 1) * 2 <= _; omega) (a0l text (10)) (O7 text (10)) rfl ?_
       refine oB 1 rfl (j3 (oA 1 rfl ?_))
       refine d9 rfl rfl (add2 (by omega)) ?_
       refine oB 1 rfl ?_
       exact ⟨_,_,rfl,ih ⟨j + 2,text ++ [10],1⟩ (by show s.length - (j + 2) < s.length - j; omega) ⟨by show j + 2 <= s.length; omega,by show List.length (text ++ [10]) <= j + 2; simp only [List.length_append,List.length_cons,List.length_nil]; omega,.inr rfl,by show part s q ins (j + 2) (text ++ [10]) = R; rw [<- hR,b0q h1 h2 (by omega) (by omega)]⟩⟩
      ·try simp only [eqB,ltB,leB,eqS,decide_eq_true_eq,decide_eq_false_iff_not,beq_iff_eq,beq_eq_false_iff_ne,ne_eq,Int.toNat_natCast,Bool.not_eq_true',Bool.not_eq_false'] at g55
       refine eSG (oB 2 rfl ?_)
       refine q9 rfl (fun g60=>?_) (fun g60=>?_)
       ·try simp only [eqB,ltB,leB,eqS,decide_eq_true_eq,decide_eq_false_iff_not,beq_iff_eq,beq_eq_false_iff_ne,ne_eq,Int.toNat_natCast,Bool.not_eq_true',Bool.not_eq_false'] at g60
        refine j3 (oA 2 rfl ?_)
        refine K7 rfl rfl rfl rfl rfl rfl rfl rfl rfl rfl rfl (a0W (J6 rfl) rfl) rfl rfl hw rfl (U0 text).symm (by show (text.length + 1) * 2 <= _; omega) (a0l text (9)) (O7 text (9)) rfl ?_
        refine oB 1 rfl (j3 (oA 1 rfl ?_))
        refine d9 rfl rfl (add2 (by omega)) ?_
        refine oB 1 rfl ?_
        exact ⟨_,_,rfl,ih ⟨j + 2,text ++ [9],1⟩ (by show s.length - (j + 2) < s.length - j; omega) ⟨by show j + 2 <= s.length; omega,by show List.length (text ++ [9]) <= j + 2; simp only [List.length_append,List.length_cons,List.length_nil]; omega,.inr rfl,by show part s q ins (j + 2) (text ++ [9]) = R; rw [<- hR,b0r h1 h2 (by omega) (by omega)]⟩⟩
       ·try simp only [eqB,ltB,leB,eqS,decide_eq_true_eq,decide_eq_false_iff_not,beq_iff_eq,beq_eq_false_iff_ne,ne_eq,Int.toNat_natCast,Bool.not_eq_true',Bool.not_eq_false'] at g60
        refine L6 (f:=27) [66,67] (fun (x:Bool) fr=>(65,.bool x) :: fr) (fun y=>y = (decide (x = 92) || decide (x = 34))) (by kernel_rfl) (by repeat (first | exact L8 rfl | exact I9 rfl | refine J2 (by kernel_rfl) ?_ | refine G9 ?_ | refine H6 (by kernel_rfl) ?_ | refine I8 (by kernel_rfl) ?_)) ?_ ?_
        ·refine eSG (oB 2 rfl ?_)
         refine q9 rfl (fun g65=>?_) (fun g65=>?_)
         ·refine j6 ?_
          refine ⟨?_,?_,?_,rfl⟩
          rotate_left 2
          ·(repeat (first | exact Off.refl | refine Off.right rfl ?_ | refine Off.left rfl ?_ | refine Off.over ?_ | refine Off.I7 rfl ?_))
          ·rw [decide_eq_true (show x = 92 by simp only [eqB,beq_iff_eq] at g65; omega)]; first | rfl | exact g65
         ·refine j3 (oB 2 rfl ?_)
          refine ⟨?_,?_,?_,rfl⟩
          rotate_left 2
          ·(repeat (first | exact Off.refl | refine Off.right rfl ?_ | refine Off.left rfl ?_ | refine Off.over ?_ | refine Off.I7 rfl ?_))
          ·rw [decide_eq_false (show ¬ x = 92 by simp only [eqB,beq_eq_false_iff_ne,ne_eq] at g65; omega),Bool.false_or]; simp only [eqB]; rw [Bool.eq_iff_iff]; simp; omega
        ·intro y hy
         show Ev _ _ _ _ _ ((65,V.bool y) :: _) _ _
         refine q9 rfl (fun g65=>?_) (fun g65=>?_)
         ·refine j3 (oA 3 rfl ?_)
          rw [g65] at hy
          have hy2:=hy.symm
          simp only [Bool.or_eq_true,decide_eq_true_eq] at hy2
          subst hx0
          refine K7 rfl rfl rfl rfl rfl rfl rfl rfl rfl rfl rfl (a0W (J6 rfl) rfl) rfl rfl hw rfl (U0 text).symm (by show (text.length + 1) * 2 <= _; omega) (a0l text (s.getD (j + 1) 0)) (O7 text (s.getD (j + 1) 0)) rfl ?_
          refine oB 1 rfl (j3 (oA 1 rfl ?_))
          refine d9 rfl rfl (add2 (by omega)) ?_
          refine oB 1 rfl ?_
          exact ⟨_,_,rfl,ih ⟨j + 2,text ++ [s.getD (j + 1) 0],1⟩ (by show s.length - (j + 2) < s.length - j; omega) ⟨by show j + 2 <= s.length; omega,by show List.length (text ++ [s.getD (j + 1) 0]) <= j + 2; simp only [List.length_append,List.length_cons,List.length_nil]; omega,.inr rfl,by show part s q ins (j + 2) (text ++ [s.getD (j + 1) 0]) = R; rw [<- hR,a10 h1 h2 (by omega) (by omega)]⟩⟩
         ·refine eSG (oB 2 rfl ?_)
          refine q9 rfl (fun g72=>?_) (fun g72=>?_)
          ·rw [g65] at hy
           have hy2:=hy.symm
           simp only [Bool.or_eq_false_iff,decide_eq_false_iff_not] at hy2
           try simp only [eqB,ltB,leB,eqS,decide_eq_true_eq,decide_eq_false_iff_not,beq_iff_eq,beq_eq_false_iff_ne,ne_eq,Int.toNat_natCast,Bool.not_eq_true',Bool.not_eq_false'] at g72
           refine j4 (eSG (oB 2 rfl ?_))
           refine q9 rfl (fun g75=>?_) (fun g75=>?_)
           ·try simp only [eqB,ltB,leB,eqS,decide_eq_true_eq,decide_eq_false_iff_not,beq_iff_eq,beq_eq_false_iff_ne,ne_eq,Int.toNat_natCast,Bool.not_eq_true',Bool.not_eq_false'] at g75
            refine eSG ?_
            refine oD ?_
            refine oA 1 rfl ?_
            refine oD ?_
            refine oB 2 rfl ?_
            rw [<- hR,a7M h1 h2 (by omega) (by omega) (by omega)]
            exact j5 ⟨_,rfl,rfl⟩
           ·try simp only [eqB,ltB,leB,eqS,decide_eq_true_eq,decide_eq_false_iff_not,beq_iff_eq,beq_eq_false_iff_ne,ne_eq,Int.toNat_natCast,Bool.not_eq_true',Bool.not_eq_false'] at g75
            refine j6 (eSG (oA 1 rfl ?_))
            refine a1y rfl rfl rfl (a3e text) ?_
            refine oA 1 rfl ?_
            refine d9 rfl rfl (add2 (by omega)) ?_
            refine oD ?_
            refine oD ?_
            refine oB 2 rfl ?_
            rw [<- hR,a4Z h1 h2 (by omega) (by omega) (by omega)]
            exact j5 ⟨_,rfl,rfl⟩
          ·rw [g65] at hy
           have hy2:=hy.symm
           simp only [Bool.or_eq_false_iff,decide_eq_false_iff_not] at hy2
           try simp only [eqB,ltB,leB,eqS,decide_eq_true_eq,decide_eq_false_iff_not,beq_iff_eq,beq_eq_false_iff_ne,ne_eq,Int.toNat_natCast,Bool.not_eq_true',Bool.not_eq_false'] at g72
           refine eSG ?_
           refine oD ?_
           refine oA 1 rfl ?_
           refine oD ?_
           refine oB 2 rfl ?_
           rw [<- hR,a9q h1 h2 (by omega) (by omega) (by omega) (by omega) (by omega) (by omega)]
           exact j5 ⟨_,rfl,rfl⟩
  ·have hP:part s q ins j text = .err 11 q:=by
    rw [g22] at hx
    rcases Nat.lt_or_ge j s.length with h | h
    ·rw [decide_eq_true h,Bool.true_and] at hx
     have hx2:=hx.symm
     simp only [decide_eq_false_iff_not] at hx2
     exact a9s (by omega)
    ·exact a9r h
   rw [<- hR,hP]
   refine G5 ?_
   refine eSG ?_
   refine oD ?_
   refine oA 1 rfl ?_
   refine oD ?_
   refine oB 2 rfl ?_
   exact j5 ⟨_,rfl,rfl⟩
end Go.Proofs.YtlhgheonlcjpaaaGreat.Sc
