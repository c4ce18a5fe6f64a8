/- What the functions under ParseSpeaks compute, step by step, as functions in Lean: texts that were built one by one, joined. -/
import Derived.Test.YtmippldlhnajkaaGreatDoorParseSpeaksJ5
set_option maxRecDepth 100000
set_option maxHeartbeats 20000000
set_option linter.unusedSimpArgs false
set_option linter.unusedVariables false
set_option linter.unusedSectionVars false
namespace Go.Proofs.YtmippldlhnajkaaGreatDoor.Sc
open Go Go.Vm
theorem b2h {s:List UInt8}{i:Nat}(h:s.length<=i):s.getD i 0=0:=by rw[List.getD_eq_getElem?_getD,List.getElem?_eq_none h];rfl
theorem c27 (s:List UInt8)(i:Nat)(hi:i<=s.length)(hs:s.length<4611686018427387904):E env (.call 71 [.str s,.i i]) []=some (.ret (.i (U5 s i)) []):=by
 obtain⟨r,hr⟩:∃r,U5 s i=r:=⟨_,rfl⟩
 rw[hr]
 refine M0 rfl Tryz.func71 rfl rfl ?_
 refine eSG (oB 1 rfl (q9 ?_))
 refine I7 ?_
 refine a1D rfl ?_
 refine a3j (fun j=>[(0,.str s),(1,.i (j:Nat))]) (fun _=>[]) (fun j=>j<=s.length/\U5 s j=r) (fun j=>s.length-j) i ⟨hi,hr⟩ ?_
 intro i ⟨hi,hr⟩ ih
 refine q9 (eSG (oB 4 rfl ?_))
 refine J4 rfl (fun g8=>?_) (fun g8=>?_)
 ·replace g8:i<s.length:=by simpa [ltN]using g8
  refine D5 ?_
  refine I7 ?_
  refine q9 (eSG (oA 2 rfl ?_))
  refine j5 rfl rfl (V5 (N9 (by omega)) rfl) ?_
  refine G9 rfl rfl rfl rfl rfl (c47 ..) rfl ?_
  refine D9 ?_
  refine J4 rfl (fun g12=>?_) (fun g12=>?_)
  ·simp only[Int.toNat_natCast]at g12
   refine eSG (oA 1 rfl ?_)
   refine j5 rfl rfl (add1 (by omega)) ?_
   refine oB 1 rfl ?_
   refine a0g ?_
   exact⟨_,_,rfl,ih (i+1) (by omega) ⟨by omega,by rw[<-b3W g8 g12];exact hr⟩⟩
  ·simp only[Int.toNat_natCast]at g12
   refine D5 (q9 ?_)
   refine a03 (f:=71) [15,16,17,18,19,20,21,22,23,24,25,26,27,28,29,30,31] (fun(x:Bool) fr=>(32,.bool x)::fr) (fun x=>x = !(decide ((s.getD i 0).toNat=47)&&decide ((s.getD (i+1) 0).toNat=47))) (by kernel_rfl) (by repeat(first|exact a1f rfl|exact a0r rfl|refine a0s (by kernel_rfl) ?_|refine Y0 ?_|refine Y1 (by kernel_rfl) ?_|refine a0q (by kernel_rfl) ?_)) ?_ ?_
   ·refine o7 (oA 2 rfl ?_)
    refine j5 rfl rfl (V5 (N9 (by omega)) rfl) ?_
    refine oA 2 rfl ?_
    refine E9 rfl rfl rfl (fun g19=>?_) (fun g19=>?_)
    ·try simp only[eqB,ltB,leB,eqS,decide_eq_true_eq,decide_eq_false_iff_not,beq_iff_eq,beq_eq_false_iff_ne,ne_eq,Int.toNat_natCast,Bool.not_eq_true',Bool.not_eq_false']at g19
     refine oB 13 rfl ?_
     refine⟨?_,?_,?_,rfl⟩
     rotate_left 2
     ·(repeat(first|exact Off.refl|refine Off.right rfl ?_|refine Off.left rfl ?_|refine Off.over ?_|refine Off.Z9 rfl ?_))
     ·rw[decide_eq_false (by omega)];rfl
    ·try simp only[eqB,ltB,leB,eqS,decide_eq_true_eq,decide_eq_false_iff_not,beq_iff_eq,beq_eq_false_iff_ne,ne_eq,Int.toNat_natCast,Bool.not_eq_true',Bool.not_eq_false']at g19
     refine oA 1 rfl ?_
     refine j5 rfl rfl (add1 (by omega)) ?_
     refine oA 5 rfl ?_
     refine E9 rfl rfl rfl (fun g26=>?_) (fun g26=>?_)
     ·try simp only[eqB,ltB,leB,eqS,decide_eq_true_eq,decide_eq_false_iff_not,beq_iff_eq,beq_eq_false_iff_ne,ne_eq,Int.toNat_natCast,Bool.not_eq_true',Bool.not_eq_false']at g26
      refine oB 6 rfl ?_
      refine⟨?_,?_,?_,rfl⟩
      rotate_left 2
      ·(repeat(first|exact Off.refl|refine Off.right rfl ?_|refine Off.left rfl ?_|refine Off.over ?_|refine Off.Z9 rfl ?_))
      ·rw[b2h (show s.length<=i+1 by omega)];simp
     ·try simp only[eqB,ltB,leB,eqS,decide_eq_true_eq,decide_eq_false_iff_not,beq_iff_eq,beq_eq_false_iff_ne,ne_eq,Int.toNat_natCast,Bool.not_eq_true',Bool.not_eq_false']at g26
      refine oA 2 rfl ?_
      refine j5 rfl rfl (add1 (by omega)) ?_
      refine j5 rfl rfl (V5 (N9 (by omega)) rfl) ?_
      refine oB 2 rfl ?_
      refine⟨?_,?_,?_,rfl⟩
      rotate_left 2
      ·(repeat(first|exact Off.refl|refine Off.right rfl ?_|refine Off.left rfl ?_|refine Off.over ?_|refine Off.Z9 rfl ?_))
      ·rw[decide_eq_true (show(s.getD i 0).toNat=47 by omega),Bool.true_and];simp only[eqB,Int.toNat_natCast];congr 1;rw[Bool.eq_iff_iff];simp;omega
   ·intro x hx
    show Ev _ _ _ _ _ ((32,V.bool x)::_) _ _
    refine J4 rfl (fun g32=>?_) (fun g32=>?_)
    ·obtain rfl:i=r:=by
      rw[<-hr]
      refine(b5Y g8 g12 ?_).symm
      rw[g32]at hx
      have:=hx.symm
      simp only[Bool.not_eq_true',Bool.and_eq_false_iff,decide_eq_false_iff_not]at this
      exact this
     refine eSG (oB 2 rfl ?_)
     exact u7 ⟨_,rfl,rfl⟩
    ·replace g32:(s.getD i 0).toNat=47/\(s.getD (i+1) 0).toNat=47:=by
      rw[g32]at hx
      have:=hx.symm
      simp only[Bool.not_eq_false',Bool.and_eq_true,decide_eq_true_eq]at this
      exact this
     obtain⟨R,hR⟩:∃R,Q5 nlB s i=R:=⟨_,rfl⟩
     have hRl:R<=s.length:=by rw[<-hR];exact a3R hi
     have hRi:i<R:=by rw[<-hR];exact a5i g8 (by simp only[nlB,decide_eq_true_eq];omega)
     refine D5 ?_
     refine I7 ?_
     refine a1D rfl ?_
     refine a3j (fun j=>[(0,.str s),(1,.i (j:Nat))]) (fun _=>[]) (fun j=>j<=s.length/\Q5 nlB s j=R) (fun j=>s.length-j) i ⟨hi,hR⟩ ?_
     intro k ⟨hk,hkR⟩ ih1
     refine q9 ?_
     refine a03 (f:=71) [34,35,36,37,38,39,40,41,42] (fun(x:Bool) fr=>(43,.bool x)::fr) (fun x=>x =(decide (k<s.length)&&nlB (s.getD k 0))) (by kernel_rfl) (by repeat(first|exact a1f rfl|exact a0r rfl|refine a0s (by kernel_rfl) ?_|refine Y0 ?_|refine Y1 (by kernel_rfl) ?_|refine a0q (by kernel_rfl) ?_)) ?_ ?_
     ·refine o7 (oA 5 rfl ?_)
      refine E9 rfl rfl rfl (fun g38=>?_) (fun g38=>?_)
      ·try simp only[eqB,ltB,leB,eqS,decide_eq_true_eq,decide_eq_false_iff_not,beq_iff_eq,beq_eq_false_iff_ne,ne_eq,Int.toNat_natCast,Bool.not_eq_true',Bool.not_eq_false']at g38
       refine oA 2 rfl ?_
       refine j5 rfl rfl (V5 (N9 (by omega)) rfl) ?_
       refine oB 2 rfl ?_
       refine⟨?_,?_,?_,rfl⟩
       rotate_left 2
       ·(repeat(first|exact Off.refl|refine Off.right rfl ?_|refine Off.left rfl ?_|refine Off.over ?_|refine Off.Z9 rfl ?_))
       ·rw[decide_eq_true (show k<s.length by omega),Bool.true_and];simp only[nlB,eqB,Int.toNat_natCast];rw[Bool.eq_iff_iff];simp;omega
      ·try simp only[eqB,ltB,leB,eqS,decide_eq_true_eq,decide_eq_false_iff_not,beq_iff_eq,beq_eq_false_iff_ne,ne_eq,Int.toNat_natCast,Bool.not_eq_true',Bool.not_eq_false']at g38
       refine oB 5 rfl ?_
       refine⟨?_,?_,?_,rfl⟩
       rotate_left 2
       ·(repeat(first|exact Off.refl|refine Off.right rfl ?_|refine Off.left rfl ?_|refine Off.over ?_|refine Off.Z9 rfl ?_))
       ·rw[decide_eq_false (by omega)];rfl
     ·intro x hx
      show Ev _ _ _ _ _ ((43,V.bool x)::_) _ _
      refine J4 rfl (fun g43=>?_) (fun g43=>?_)
      ·replace g43:k<s.length/\nlB (s.getD k 0)=true:=by
        rw[g43]at hx
        have:=hx.symm
        simp only[Bool.and_eq_true,decide_eq_true_eq]at this
        exact this
       refine D5 ?_
       refine I7 ?_
       refine o7 (oA 1 rfl ?_)
       refine j5 rfl rfl (add1 (by omega)) ?_
       refine oB 1 rfl ?_
       exact⟨_,_,rfl,ih1 (k+1) (by omega) ⟨by omega,by rw[<-a8x g43.1 g43.2];exact hkR⟩⟩
      ·obtain rfl:k=R:=by
        rw[<-hkR]
        rw[g43]at hx
        rcases Nat.lt_or_ge k s.length with h|h
        ·rw[decide_eq_true h,Bool.true_and]at hx
         exact(b4z h hx.symm).symm
        ·exact(b2M h).symm
       refine a0g ?_
       exact⟨_,_,rfl,ih k (by omega) ⟨hRl,by rw[<-hR,<-b67 g8 g32.1 g32.2];exact hr⟩⟩
 ·replace g8:s.length<=i:=by simpa [ltN]using g8
  obtain rfl:i=r:=by rw[<-hr,b68 g8]
  refine a0g ?_
  refine eSG (oB 2 rfl ?_)
  exact u7 ⟨_,rfl,rfl⟩
theorem c51 (s:List UInt8)(i:Nat)(hi:i<=s.length)(hs:s.length<4611686018427387904):E env (.call 133 [.str s,.i i]) []=some (.ret (.i (Q5 J2 s i)) []):=by
 obtain⟨r,hr⟩:∃r,Q5 J2 s i=r:=⟨_,rfl⟩
 rw[hr]
 refine M0 rfl Tryz.func133 rfl rfl ?_
 refine eSG (oB 1 rfl (q9 ?_))
 refine I7 ?_
 refine a1D rfl ?_
 refine a3j (fun j=>[(0,.str s),(1,.i (j:Nat))]) (fun _=>[]) (fun j=>j<=s.length/\Q5 J2 s j=r) (fun j=>s.length-j) i ⟨hi,hr⟩ ?_
 intro i ⟨hi,hr⟩ ih
 refine q9 ?_
 refine a03 (f:=133) [5,6,7,8,9,10,11,12,13] (fun(x:Bool) fr=>(14,.bool x)::fr) (fun x=>x =(decide (i<s.length)&&J2 (s.getD i 0))) (by kernel_rfl) (by repeat(first|exact a1f rfl|exact a0r rfl|refine a0s (by kernel_rfl) ?_|refine Y0 ?_|refine Y1 (by kernel_rfl) ?_|refine a0q (by kernel_rfl) ?_)) ?_ ?_
 ·refine o7 (oA 5 rfl ?_)
  refine E9 rfl rfl rfl (fun g9=>?_) (fun g9=>?_)
  ·try simp only[eqB,ltB,leB,eqS,decide_eq_true_eq,decide_eq_false_iff_not,beq_iff_eq,beq_eq_false_iff_ne,ne_eq,Int.toNat_natCast,Bool.not_eq_true',Bool.not_eq_false']at g9
   refine oA 2 rfl ?_
   refine j5 rfl rfl (V5 (N9 (by omega)) rfl) ?_
   refine G9 rfl rfl rfl rfl rfl (c48 ..) rfl ?_
   refine oB 1 rfl ?_
   refine⟨?_,?_,?_,rfl⟩
   rotate_left 2
   ·(repeat(first|exact Off.refl|refine Off.right rfl ?_|refine Off.left rfl ?_|refine Off.over ?_|refine Off.Z9 rfl ?_))
   ·rw[decide_eq_true (show i<s.length by omega),Bool.true_and];simp only[Int.toNat_natCast]
  ·try simp only[eqB,ltB,leB,eqS,decide_eq_true_eq,decide_eq_false_iff_not,beq_iff_eq,beq_eq_false_iff_ne,ne_eq,Int.toNat_natCast,Bool.not_eq_true',Bool.not_eq_false']at g9
   refine oB 5 rfl ?_
   refine⟨?_,?_,?_,rfl⟩
   rotate_left 2
   ·(repeat(first|exact Off.refl|refine Off.right rfl ?_|refine Off.left rfl ?_|refine Off.over ?_|refine Off.Z9 rfl ?_))
   ·rw[decide_eq_false (by omega)];rfl
 ·intro x hx
  show Ev _ _ _ _ _ ((14,V.bool x)::_) _ _
  refine J4 rfl (fun g14=>?_) (fun g14=>?_)
  ·replace g14:i<s.length/\J2 (s.getD i 0)=true:=by
    rw[g14]at hx
    have:=hx.symm
    simp only[Bool.and_eq_true,decide_eq_true_eq]at this
    exact this
   refine D5 ?_
   refine I7 ?_
   refine o7 (oA 1 rfl ?_)
   refine j5 rfl rfl (add1 (by omega)) ?_
   refine oB 1 rfl ?_
   exact⟨_,_,rfl,ih (i+1) (by omega) ⟨by omega,by rw[<-a8x g14.1 g14.2];exact hr⟩⟩
  ·obtain rfl:i=r:=by
    rw[<-hr]
    rw[g14]at hx
    rcases Nat.lt_or_ge i s.length with h|h
    ·rw[decide_eq_true h,Bool.true_and]at hx
     exact(b4z h hx.symm).symm
    ·exact(b2M h).symm
   refine a0g ?_
   refine eSG (oB 2 rfl ?_)
   exact u7 ⟨_,rfl,rfl⟩
theorem c53 (s:List UInt8)(i:Nat)(hi:i<=s.length)(hs:s.length<4611686018427387904):E env (.call 135 [.str s,.i i]) []=some (.ret (.i (Q5 V8 s i)) []):=by
 obtain⟨r,hr⟩:∃r,Q5 V8 s i=r:=⟨_,rfl⟩
 rw[hr]
 refine M0 rfl Tryz.func135 rfl rfl ?_
 refine eSG (oB 1 rfl (q9 ?_))
 refine I7 ?_
 refine a1D rfl ?_
 refine a3j (fun j=>[(0,.str s),(1,.i (j:Nat))]) (fun _=>[]) (fun j=>j<=s.length/\Q5 V8 s j=r) (fun j=>s.length-j) i ⟨hi,hr⟩ ?_
 intro i ⟨hi,hr⟩ ih
 refine q9 ?_
 refine a03 (f:=135) [5,6,7,8,9,10,11,12,13,14,15,16,17,18,19] (fun(x:Bool) fr=>(20,.bool x)::fr) (fun x=>x =(decide (i<s.length)&&V8 (s.getD i 0))) (by kernel_rfl) (by repeat(first|exact a1f rfl|exact a0r rfl|refine a0s (by kernel_rfl) ?_|refine Y0 ?_|refine Y1 (by kernel_rfl) ?_|refine a0q (by kernel_rfl) ?_)) ?_ ?_
 ·refine o7 (oA 5 rfl ?_)
  refine E9 rfl rfl rfl (fun g9=>?_) (fun g9=>?_)
  ·try simp only[eqB,ltB,leB,eqS,decide_eq_true_eq,decide_eq_false_iff_not,beq_iff_eq,beq_eq_false_iff_ne,ne_eq,Int.toNat_natCast,Bool.not_eq_true',Bool.not_eq_false']at g9
   refine oA 2 rfl ?_
   refine j5 rfl rfl (V5 (N9 (by omega)) rfl) ?_
   refine G9 rfl rfl rfl rfl rfl (c49 ..) rfl ?_
   refine oA 1 rfl ?_
   refine E9 rfl rfl rfl (fun g14=>?_) (fun g14=>?_)
   ·try simp only[eqB,ltB,leB,eqS,decide_eq_true_eq,decide_eq_false_iff_not,beq_iff_eq,beq_eq_false_iff_ne,ne_eq,Int.toNat_natCast,Bool.not_eq_true',Bool.not_eq_false']at g14
    refine oB 6 rfl ?_
    refine⟨?_,?_,?_,rfl⟩
    rotate_left 2
    ·(repeat(first|exact Off.refl|refine Off.right rfl ?_|refine Off.left rfl ?_|refine Off.over ?_|refine Off.Z9 rfl ?_))
    ·rw[decide_eq_true (show i<s.length by omega),Bool.true_and];simp only[Int.toNat_natCast]at g14 ⊢;simp only[V8,g14,Bool.true_or]
   ·try simp only[eqB,ltB,leB,eqS,decide_eq_true_eq,decide_eq_false_iff_not,beq_iff_eq,beq_eq_false_iff_ne,ne_eq,Int.toNat_natCast,Bool.not_eq_true',Bool.not_eq_false']at g14
    refine oA 2 rfl ?_
    refine j5 rfl rfl (V5 (N9 (by omega)) rfl) ?_
    refine G9 rfl rfl rfl rfl rfl (c48 ..) rfl ?_
    refine oB 2 rfl ?_
    refine⟨?_,?_,?_,rfl⟩
    rotate_left 2
    ·(repeat(first|exact Off.refl|refine Off.right rfl ?_|refine Off.left rfl ?_|refine Off.over ?_|refine Off.Z9 rfl ?_))
    ·rw[decide_eq_true (show i<s.length by omega),Bool.true_and];simp only[Int.toNat_natCast]at g14 ⊢;simp only[V8,g14,Bool.false_or]
  ·try simp only[eqB,ltB,leB,eqS,decide_eq_true_eq,decide_eq_false_iff_not,beq_iff_eq,beq_eq_false_iff_ne,ne_eq,Int.toNat_natCast,Bool.not_eq_true',Bool.not_eq_false']at g9
   refine oB 11 rfl ?_
   refine⟨?_,?_,?_,rfl⟩
   rotate_left 2
   ·(repeat(first|exact Off.refl|refine Off.right rfl ?_|refine Off.left rfl ?_|refine Off.over ?_|refine Off.Z9 rfl ?_))
   ·rw[decide_eq_false (by omega)];rfl
 ·intro x hx
  show Ev _ _ _ _ _ ((20,V.bool x)::_) _ _
  refine J4 rfl (fun g20=>?_) (fun g20=>?_)
  ·replace g20:i<s.length/\V8 (s.getD i 0)=true:=by
    rw[g20]at hx
    have:=hx.symm
    simp only[Bool.and_eq_true,decide_eq_true_eq]at this
    exact this
   refine D5 ?_
   refine I7 ?_
   refine o7 (oA 1 rfl ?_)
   refine j5 rfl rfl (add1 (by omega)) ?_
   refine oB 1 rfl ?_
   exact⟨_,_,rfl,ih (i+1) (by omega) ⟨by omega,by rw[<-a8x g20.1 g20.2];exact hr⟩⟩
  ·obtain rfl:i=r:=by
    rw[<-hr]
    rw[g20]at hx
    rcases Nat.lt_or_ge i s.length with h|h
    ·rw[decide_eq_true h,Bool.true_and]at hx
     exact(b4z h hx.symm).symm
    ·exact(b2M h).symm
   refine a0g ?_
   refine eSG (oB 2 rfl ?_)
   exact u7 ⟨_,rfl,rfl⟩
theorem c52 (w:List UInt8)(b:Bool)(hb:(ltB 19 w.length ||(eqB w.length 19 && !(ltS w a0x||eqS w a0x)))=b):E env (.call 134 [.str w]) []=some (.ret (.bool b) []):=by
 refine M0 rfl Tryz.func134 rfl rfl ?_
 refine eSG (oB 1 rfl (eSG (oB 1 rfl (eSG (oA 6 rfl ?_)))))
 refine E9 rfl rfl rfl (fun g9=>?_) (fun g9=>?_)
 ·refine oB 12 rfl ?_
  obtain rfl:b=true:=by rw[<-hb,show ltB 19 (w.length:Nat)=true from g9];rfl
  exact u7 ⟨_,rfl,rfl⟩
 ·refine oA 6 rfl ?_
  refine E9 rfl rfl rfl (fun g15=>?_) (fun g15=>?_)
  ·refine oB 6 rfl ?_
   subst hb
   rw[show ltB 19 (w.length:Nat)=false from g9,show eqB (w.length:Nat) 19=true from g15]
   exact u7 ⟨_,rfl,rfl⟩
  ·refine oB 6 rfl ?_
   subst hb
   rw[show ltB 19 (w.length:Nat)=false from g9,show eqB (w.length:Nat) 19=false from g15]
   exact u7 ⟨_,rfl,rfl⟩
end Go.Proofs.YtmippldlhnajkaaGreatDoor.Sc
namespace Go.Proofs.YtmippldlhnajkaaGreatDoor.Sc
open Go Go.Vm
def a7W (x:List UInt8):List (List UInt8)->Nat->Int
 | [],_=>-1
 | a::r,k=>match decide (a=x)with|true=>(k:Int)|false=>a7W x r (k+1)
theorem a6v (x:List UInt8):∀(l:List (List UInt8)) (k:Nat),leB 0 (a7W x l k)=b1G l x
 | [],k=>by simp[a7W,leB,b1G]
 | a::r,k=>by
  have ih:=a6v x r (k+1)
  simp only[b1G,List.any_cons]at ih ⊢
  simp only[a7W]
  cases h:decide (a=x)with
  | true=>simp[leB]
  | false=>simp only[ih];simp
theorem ldc9 {l:List (List UInt8)}{i:Nat}{H:Hp}(h:i<l.length):a2C env.T 9 (.cptr ((l.map V.str).drop ((i:Int).toNat*1))) H=some (.str (l.getD i [])):=by
 show((l.map V.str).drop ((i:Int).toNat*1)).head? = _
 simp[h]
theorem b40 {x:List UInt8}{l:List (List UInt8)}{i:Nat}(h:i<l.length):a7W x (l.drop i) i =(match decide (l.getD i []=x)with|true=>(i:Int)|false=>a7W x (l.drop (i+1)) (i+1)):=by
 rw[List.drop_eq_getElem_cons h];simp only[a7W];simp[h]
theorem c55 (l:List (List UInt8))(x:List UInt8)(hl:l.length<1000000):E env (.call 137 [.slice .sealed l.length (l.map V.str),.str x]) []=some (.ret (.i (a7W x l 0)) []):=by
 obtain⟨r,hr⟩:∃r,a7W x (l.drop 0) 0=r:=⟨_,rfl⟩
 rw[List.drop_zero]at hr;rw[hr]
 have hr0:a7W x (l.drop 0) 0=r:=hr
 refine M0 rfl Tryz.func137 rfl rfl ?_
 refine eSG (oB 1 rfl (q9 (eSG (oB 1 rfl ?_))))
 refine I7 ?_
 refine a1D rfl ?_
 refine a3j (fun j=>[(0,.slice .sealed l.length (l.map V.str)),(1,.str x),(5,.i (j:Nat))]) (fun _=>[]) (fun j=>j<=l.length/\a7W x (l.drop j) j=r) (fun j=>l.length-j) 0 ⟨Nat.zero_le _,hr0⟩ ?_
 intro i ⟨hi,hr⟩ ih
 refine q9 (eSG (oB 4 rfl ?_))
 refine J4 rfl (fun g9=>?_) (fun g9=>?_)
 ·replace g9:i<l.length:=by simpa [ltN]using g9
  refine D5 (q9 ?_)
  refine I7 ?_
  refine eSG (oA 2 rfl ?_)
  refine j5 rfl rfl (V5 (N9 (by omega)) rfl) ?_
  refine V7 rfl rfl rfl (ldc9 g9) ?_
  refine oB 2 rfl ?_
  refine J4 rfl (fun g17=>?_) (fun g17=>?_)
  ·obtain rfl:r =(i:Int):=by
    simp only[eqS,beq_iff_eq]at g17
    rw[<-hr,b40 g9,decide_eq_true g17]
   refine eSG (oB 2 rfl ?_)
   exact u7 ⟨_,rfl,rfl⟩
  ·simp only[eqS,beq_eq_false_iff_ne,ne_eq]at g17
   refine D5 (o7 (oA 1 rfl ?_))
   refine j5 rfl rfl (add1 (by omega)) ?_
   refine oB 1 rfl ?_
   exact⟨_,_,rfl,ih (i+1) (by omega) ⟨by omega,by rw[<-hr,b40 g9,decide_eq_false g17]⟩⟩
 ·replace g9:l.length<=i:=by simpa [ltN]using g9
  obtain rfl:r = -1:=by rw[<-hr,List.drop_eq_nil_of_le g9];rfl
  refine a0g ?_
  refine eSG (oB 1 rfl ?_)
  exact u7 ⟨_,rfl,rfl⟩
theorem c19:E env (.call 173 []) []=some (.ret (.slice .sealed a0Z.length (a0Z.map V.str)) []):=(a0I env).le 5 _ _ _ (by kernel_rfl)
theorem c18:E env (.call 138 []) []=some (.ret (.slice .sealed a1q.length (a1q.map V.str)) []):=(a0I env).le 5 _ _ _ (by kernel_rfl)
theorem c50 (s:List UInt8)(i:Nat)(hi:i<s.length)(hs:s.length<4611686018427387904)(w:List UInt8)(hw:a0f s i 2=w):E env (.call 132 [.str s,.i i]) []=some (.ret (.i w.length) []):=by
 have h1:leB ((i+1:Nat):Int) s.length=true:=by simp only[leB,decide_eq_true_eq];omega
 simp only[a0f,h1,Bool.true_and]at hw
 refine M0 rfl Tryz.func132 rfl rfl ?_
 refine eSG (oB 1 rfl (eSG ?_))
 refine G9 rfl rfl rfl rfl rfl (c19 ..) rfl ?_
 refine oB 1 rfl (q9 ?_)
 refine a03 (f:=132) [7,8,9,10,11,12,13,14,15,16,17,18,19,20] (fun(x:Bool) fr=>(21,.bool x)::fr) (fun x=>x =(leB ((i+2:Nat):Int) s.length&&b1G a0Z ((s.take (i+2)).drop i))) (by kernel_rfl) (by repeat(first|exact a1f rfl|exact a0r rfl|refine a0s (by kernel_rfl) ?_|refine Y0 ?_|refine Y1 (by kernel_rfl) ?_|refine a0q (by kernel_rfl) ?_)) ?_ ?_
 ·refine o7 (oA 1 rfl ?_)
  refine j5 rfl rfl (addN (k:=2) (by omega)) ?_
  refine oA 4 rfl ?_
  refine E9 rfl rfl rfl (fun g12=>?_) (fun g12=>?_)
  ·have g12':=g12
   simp only[leB,decide_eq_true_eq]at g12'
   refine oA 4 rfl ?_
   refine j5 rfl rfl (addN (k:=2) (by omega)) ?_
   refine j5 rfl rfl (V5 (a3w (by omega) (by omega)) rfl) ?_
   refine G9 rfl rfl rfl rfl rfl (c55 a0Z _ (by decide)) rfl ?_
   refine oB 2 rfl ?_
   refine⟨?_,?_,?_,rfl⟩
   rotate_left 2
   ·(repeat(first|exact Off.refl|refine Off.right rfl ?_|refine Off.left rfl ?_|refine Off.over ?_|refine Off.Z9 rfl ?_))
   ·rw[g12,Bool.true_and];exact a6v _ _ _
  ·refine oB 9 rfl ?_
   refine⟨?_,?_,?_,rfl⟩
   rotate_left 2
   ·(repeat(first|exact Off.refl|refine Off.right rfl ?_|refine Off.left rfl ?_|refine Off.over ?_|refine Off.Z9 rfl ?_))
   ·rw[g12];rfl
 ·intro x hx
  show Ev _ _ _ _ _ ((21,V.bool x)::_) _ _
  refine J4 rfl (fun g21=>?_) (fun g21=>?_)
  ·obtain rfl:w =(s.take (i+2)).drop i:=by rw[<-hw,<-hx,g21]
   have hl:((s.take (i+2)).drop i).length=2:=by
    rw[g21]at hx
    have:=hx.symm
    simp only[Bool.and_eq_true,leB,decide_eq_true_eq]at this
    rw[List.length_drop,List.length_take];omega
   rw[hl]
   refine eSG (oB 1 rfl ?_)
   exact u7 ⟨_,rfl,rfl⟩
  ·rw[g21]at hx
   rw[<-hx]at hw
   refine D5 (q9 (eSG (oA 4 rfl ?_)))
   refine j5 rfl rfl (addN (k:=1) (by omega)) ?_
   refine j5 rfl rfl (V5 (a3w (by omega) (by omega)) rfl) ?_
   refine G9 rfl rfl rfl rfl rfl (c55 a0Z _ (by decide)) rfl ?_
   refine oB 1 rfl ?_
   refine J4 rfl (fun g29=>?_) (fun g29=>?_)
   ·replace g29:b1G a0Z ((s.take (i+1)).drop i)=true:=(a6v _ _ _).symm.trans g29
    obtain rfl:w =(s.take (i+1)).drop i:=by rw[<-hw];simp only[g29]
    have hl:((s.take (i+1)).drop i).length=1:=by rw[List.length_drop,List.length_take];omega
    rw[hl]
    refine eSG (oB 1 rfl ?_)
    exact u7 ⟨_,rfl,rfl⟩
   ·replace g29:b1G a0Z ((s.take (i+1)).drop i)=false:=(a6v _ _ _).symm.trans g29
    obtain rfl:w=[]:=by rw[<-hw];simp only[g29]
    refine D5 (eSG (oB 1 rfl ?_))
    exact u7 ⟨_,rfl,rfl⟩
theorem c28 (s:List UInt8)(i:Nat)(hi:i<s.length)(hs:s.length<4611686018427387904)(b:Bool)(hb:(decide ((s.getD i 0).toNat=34)||J2 (s.getD i 0)||X5 (s.getD i 0)||decide (a0f s i 2 ≠ []))=b):E env (.call 72 [.str s,.i i]) []=some (.ret (.bool b) []):=by
 refine M0 rfl Tryz.func72 rfl rfl ?_
 refine eSG (oB 1 rfl (eSG (oA 2 rfl ?_)))
 refine j5 rfl rfl (V5 (N9 (by omega)) rfl) ?_
 refine oA 2 rfl ?_
 refine E9 rfl rfl rfl (fun g9=>?_) (fun g9=>?_)
 ·replace g9:(s.getD i 0).toNat=34:=by simp only[eqB,Int.toNat_natCast,beq_iff_eq]at g9;omega
  refine oB 18 rfl ?_
  obtain rfl:b=true:=by rw[<-hb,decide_eq_true g9];rfl
  exact u7 ⟨_,rfl,rfl⟩
 ·replace g9:(s.getD i 0).toNat≠34:=by simp only[eqB,Int.toNat_natCast,beq_eq_false_iff_ne,ne_eq]at g9;omega
  refine oA 2 rfl ?_
  refine j5 rfl rfl (V5 (N9 (by omega)) rfl) ?_
  refine G9 rfl rfl rfl rfl rfl (c48 ..) rfl ?_
  refine oA 2 rfl ?_
  refine E9 rfl rfl rfl (fun g15=>?_) (fun g15=>?_)
  ·simp only[Int.toNat_natCast]at g15
   refine oB 12 rfl ?_
   obtain rfl:b=true:=by rw[<-hb,g15];simp
   exact u7 ⟨_,rfl,rfl⟩
  ·simp only[Int.toNat_natCast]at g15
   refine oA 2 rfl ?_
   refine j5 rfl rfl (V5 (N9 (by omega)) rfl) ?_
   refine G9 rfl rfl rfl rfl rfl (c49 ..) rfl ?_
   refine oA 2 rfl ?_
   refine E9 rfl rfl rfl (fun g21=>?_) (fun g21=>?_)
   ·simp only[Int.toNat_natCast]at g21
    refine oB 6 rfl ?_
    obtain rfl:b=true:=by rw[<-hb,g21];simp
    exact u7 ⟨_,rfl,rfl⟩
   ·simp only[Int.toNat_natCast]at g21
    refine oA 2 rfl ?_
    refine G9 rfl rfl rfl rfl rfl (c50 s i hi hs _ rfl) rfl ?_
    refine oB 3 rfl ?_
    subst hb
    rw[decide_eq_false g9,g15,g21]
    have:ltB 0 ((a0f s i 2).length:Nat) =(false||false||false||decide (a0f s i 2 ≠ [])):=by
     simp only[ltB];rw[Bool.eq_iff_iff];simp[List.length_pos_iff]
    rw[<-this]
    exact u7 ⟨_,rfl,rfl⟩
end Go.Proofs.YtmippldlhnajkaaGreatDoor.Sc
namespace Go.Proofs.YtmippldlhnajkaaGreatDoor.Sc
open Go Go.Vm
def b2q:Option Tok->Int->Nat->V
 | some t,_,_=>.tuple [.agg (b3w t.k t.t t.a t.l),.agg [.i 0,.i 0]]
 | none,c,a=>.tuple [.agg [.i 0,.str [],.i 0,.i 0],.agg [.i c,.i (a:Int)]]
def b07 (s:List UInt8)(i:Nat):V :=
 match J2 (s.getD i 0)with
 | true=>match U0 ((s.take (Q5 J2 s i)).drop i) (s.getD (Q5 J2 s i) 0)with
  | true=>b2q none 13 i
  | false=>b2q (some ⟨3,(s.take (Q5 J2 s i)).drop i,i,Q5 J2 s i-i⟩) 0 0
 | false=>match X5 (s.getD i 0)with
  | true=>match ltB 24 ((s.take (Q5 V8 s i)).drop i).length with
   | true=>b2q none 14 i
   | false=>b2q (some ⟨a3n ((s.take (Q5 V8 s i)).drop i),(s.take (Q5 V8 s i)).drop i,i,Q5 V8 s i-i⟩) 0 0
  | false=>match a0f s i 2 with
   | []=>b2q none 10 i
   | w=>b2q (some ⟨8,w,i,w.length⟩) 0 0
theorem signK_eq {s:List UInt8}{i:Nat}{w:List UInt8}(h:a0f s i 2=w)(hi:i<s.length):w =(s.take (i+w.length)).drop i:=by
 have h1:leB ((i+1:Nat):Int) s.length=true:=by simp only[leB,decide_eq_true_eq];omega
 simp only[a0f,h1,Bool.true_and]at h
 split at h
 ·rename_i hx
  simp only[Bool.and_eq_true,leB,decide_eq_true_eq]at hx
  have hl:((s.take (i+2)).drop i).length=2:=by rw[List.length_drop,List.length_take];omega
  rw[<-h]
  show _ =(s.take (i+((s.take (i+2)).drop i).length)).drop i
  rw[hl]
 ·split at h
  ·have hl:((s.take (i+1)).drop i).length=1:=by rw[List.length_drop,List.length_take];omega
   rw[<-h]
   show _ =(s.take (i+((s.take (i+1)).drop i).length)).drop i
   rw[hl]
  ·subst h;simp
section
variable {w:List UInt8} {nx:UInt8}
theorem bad_eq:U0 w nx =((ltB 1 w.length&&eqB (w.getD 0 0).toNat 48) ||(ltB 19 w.length ||(eqB w.length 19 && !(ltS w a0x||eqS w a0x)))||X5 nx):=by
 unfold U0;simp only[Bool.or_assoc]
theorem bad1 (h1:ltB 1 w.length=true)(h2:eqB (w.getD 0 0).toNat 48=true):U0 w nx=true:=by rw[bad_eq,h1,h2];rfl
theorem bad2 (h1:ltB 1 w.length=true)(h2:eqB (w.getD 0 0).toNat 48=false)(h3:(ltB 19 w.length ||(eqB w.length 19 && !(ltS w a0x||eqS w a0x)))=true):U0 w nx=true:=by rw[bad_eq,h1,h2,h3];rfl
theorem bad3 (h1:ltB 1 w.length=true)(h2:eqB (w.getD 0 0).toNat 48=false)(h3:(ltB 19 w.length ||(eqB w.length 19 && !(ltS w a0x||eqS w a0x)))=false):U0 w nx=X5 nx:=by rw[bad_eq,h1,h2,h3];rfl
theorem bad5 (h1:ltB 1 w.length=false)(h3:(ltB 19 w.length ||(eqB w.length 19 && !(ltS w a0x||eqS w a0x)))=true):U0 w nx=true:=by rw[bad_eq,h1,h3];rfl
theorem bad6 (h1:ltB 1 w.length=false)(h3:(ltB 19 w.length ||(eqB w.length 19 && !(ltS w a0x||eqS w a0x)))=false):U0 w nx=X5 nx:=by rw[bad_eq,h1,h3];rfl
theorem b5h {s:List UInt8}{r:Nat}(h:s.length<=r):X5 (s.getD r 0)=false:=by rw[b2h h];rfl
theorem bad4 {s:List UInt8}{r:Nat}(h1:ltB 1 w.length=true)(h2:eqB (w.getD 0 0).toNat 48=false)(h3:(ltB 19 w.length ||(eqB w.length 19 && !(ltS w a0x||eqS w a0x)))=false)(h:s.length<=r):U0 w (s.getD r 0)=false:=by rw[bad3 h1 h2 h3,b5h h]
theorem bad7 {s:List UInt8}{r:Nat}(h1:ltB 1 w.length=false)(h3:(ltB 19 w.length ||(eqB w.length 19 && !(ltS w a0x||eqS w a0x)))=false)(h:s.length<=r):U0 w (s.getD r 0)=false:=by rw[bad6 h1 h3,b5h h]
theorem cap1 {b:UInt8}(h:capB b=true):(match leB 65 b.toNat&&leB b.toNat 90 with|true=>2|false=>(1:Int))=2:=by
 have:(leB 65 b.toNat&&leB b.toNat 90)=true:=by rw[<-h,<-b7x];rfl
 rw[this]
theorem cap2 {b:UInt8}(h:capB b=false):(match leB 65 b.toNat&&leB b.toNat 90 with|true=>2|false=>(1:Int))=1:=by
 have:(leB 65 b.toNat&&leB b.toNat 90)=false:=by rw[<-h,<-b7x];rfl
 rw[this]
end
theorem c30 (s:List UInt8)(i:Nat)(hi:i<s.length)(hs:s.length<4611686018427387904):E env (.call 74 [.str s,.i i]) []=some (.ret (b07 s i) []):=by
 have hi1:i<=s.length:=by omega
 refine M0 rfl Tryz.func74 rfl rfl ?_
 refine eSG (oB 2 rfl (eSG (oA 2 rfl ?_)))
 refine j5 rfl rfl (V5 (N9 (by omega)) rfl) ?_
 refine oB 1 rfl (q9 (eSG (oA 1 rfl ?_)))
 refine G9 rfl rfl rfl rfl rfl (c48 ..) rfl ?_
 refine D9 ?_
 refine J4 rfl (fun g17=>?_) (fun g17=>?_)
 ·simp only[Int.toNat_natCast]at g17
  obtain⟨r,hr⟩:∃r,Q5 J2 s i=r:=⟨_,rfl⟩
  obtain⟨w,hw⟩:∃w,(s.take r).drop i=w:=⟨_,rfl⟩
  have hrg:i<r:=by rw[<-hr];exact a5i hi g17
  have hrle:r<=s.length:=by rw[<-hr];exact a3R hi1
  have hwl:w.length=r-i:=by rw[<-hw,List.length_drop,List.length_take];omega
  have hw0:w.getD 0 0=s.getD i 0:=by
   rw[<-hw,List.getD_eq_getElem?_getD,List.getElem?_drop,Nat.add_zero,List.getElem?_take_of_lt (by omega),<-List.getD_eq_getElem?_getD]
  have hR:b07 s i =(match U0 w (s.getD r 0)with|true=>b2q none 13 i|false=>b2q (some ⟨3,w,i,r-i⟩) 0 0):=by
   unfold b07;simp only[g17,hr,hw]
  rw[hR]
  have h51:=c51 s i hi1 hs
  rw[hr]at h51
  refine eSG (oA 2 rfl ?_)
  refine G9 rfl rfl rfl rfl rfl (h51) rfl ?_
  refine oB 1 rfl (eSG (oA 3 rfl ?_))
  refine j5 rfl rfl (V5 (a3w (by omega) (by omega)) (show a2a (some (.str ((s.take (r:Int).toNat).drop (i:Int).toNat)))=some (.str w)by rw[<-hw];rfl)) ?_
  refine oB 1 rfl (q9 ?_)
  refine a03 (f:=74) [25,26,27,28,29,30,31,32,33,34,35,36,37,38,39,40,41,42,43,44,45,46] (fun(x:Bool) fr=>(47,.bool x)::fr) (fun x=>x=U0 w (s.getD r 0)) (by kernel_rfl) (by repeat(first|exact a1f rfl|exact a0r rfl|refine a0s (by kernel_rfl) ?_|refine Y0 ?_|refine Y1 (by kernel_rfl) ?_|refine a0q (by kernel_rfl) ?_)) ?_ ?_
  ·refine o7 (oA 4 rfl ?_)
   refine E9 rfl rfl rfl (fun g28=>?_) (fun g28=>?_)
   ·refine oA 4 rfl ?_
    refine E9 rfl rfl rfl (fun g32=>?_) (fun g32=>?_)
    ·refine oB 15 rfl ?_
     refine⟨?_,?_,?_,rfl⟩
     rotate_left 2
     ·(repeat(first|exact Off.refl|refine Off.right rfl ?_|refine Off.left rfl ?_|refine Off.over ?_|refine Off.Z9 rfl ?_))
     ·exact(bad1 g28 (by rw[hw0];exact g32)).symm
    ·refine oA 1 rfl ?_
     refine G9 rfl rfl rfl rfl rfl (c52 w _ rfl) rfl ?_
     refine oA 2 rfl ?_
     refine E9 rfl rfl rfl (fun g36=>?_) (fun g36=>?_)
     ·refine oB 11 rfl ?_
      refine⟨?_,?_,?_,rfl⟩
      rotate_left 2
      ·(repeat(first|exact Off.refl|refine Off.right rfl ?_|refine Off.left rfl ?_|refine Off.over ?_|refine Off.Z9 rfl ?_))
      ·exact(bad2 g28 (by rw[hw0];exact g32) g36).symm
     ·refine oA 5 rfl ?_
      refine E9 rfl rfl rfl (fun g41=>?_) (fun g41=>?_)
      ·have g41':=g41
       simp only[ltB,decide_eq_true_eq]at g41'
       refine oA 2 rfl ?_
       refine j5 rfl rfl (V5 (N9 (by omega)) rfl) ?_
       refine G9 rfl rfl rfl rfl rfl (c49 ..) rfl ?_
       refine oB 2 rfl ?_
       refine⟨?_,?_,?_,rfl⟩
       rotate_left 2
       ·(repeat(first|exact Off.refl|refine Off.right rfl ?_|refine Off.left rfl ?_|refine Off.over ?_|refine Off.Z9 rfl ?_))
       ·exact(bad3 g28 (by rw[hw0];exact g32) g36).symm
      ·have g41':=g41
       simp only[ltB,decide_eq_false_iff_not]at g41'
       refine oB 6 rfl ?_
       refine⟨?_,?_,?_,rfl⟩
       rotate_left 2
       ·(repeat(first|exact Off.refl|refine Off.right rfl ?_|refine Off.left rfl ?_|refine Off.over ?_|refine Off.Z9 rfl ?_))
       ·exact(bad4 g28 (by rw[hw0];exact g32) g36 (by omega)).symm
   ·refine oA 5 rfl ?_
    refine G9 rfl rfl rfl rfl rfl (c52 w _ rfl) rfl ?_
    refine oA 2 rfl ?_
    refine E9 rfl rfl rfl (fun g36=>?_) (fun g36=>?_)
    ·refine oB 11 rfl ?_
     refine⟨?_,?_,?_,rfl⟩
     rotate_left 2
     ·(repeat(first|exact Off.refl|refine Off.right rfl ?_|refine Off.left rfl ?_|refine Off.over ?_|refine Off.Z9 rfl ?_))
     ·exact(bad5 g28 g36).symm
    ·refine oA 5 rfl ?_
     refine E9 rfl rfl rfl (fun g41=>?_) (fun g41=>?_)
     ·have g41':=g41
      simp only[ltB,decide_eq_true_eq]at g41'
      refine oA 2 rfl ?_
      refine j5 rfl rfl (V5 (N9 (by omega)) rfl) ?_
      refine G9 rfl rfl rfl rfl rfl (c49 ..) rfl ?_
      refine oB 2 rfl ?_
      refine⟨?_,?_,?_,rfl⟩
      rotate_left 2
      ·(repeat(first|exact Off.refl|refine Off.right rfl ?_|refine Off.left rfl ?_|refine Off.over ?_|refine Off.Z9 rfl ?_))
      ·exact(bad6 g28 g36).symm
     ·have g41':=g41
      simp only[ltB,decide_eq_false_iff_not]at g41'
      refine oB 6 rfl ?_
      refine⟨?_,?_,?_,rfl⟩
      rotate_left 2
      ·(repeat(first|exact Off.refl|refine Off.right rfl ?_|refine Off.left rfl ?_|refine Off.over ?_|refine Off.Z9 rfl ?_))
      ·exact(bad7 g28 g36 (by omega)).symm
  ·intro x hx
   show Ev _ _ _ _ _ ((47,V.bool x)::_) _ _
   refine J4 rfl (fun g47=>?_) (fun g47=>?_)
   ·rw[<-hx,g47]
    refine eSG ?_
    refine oD ?_
    refine oA 1 rfl ?_
    refine oD ?_
    refine oB 2 rfl ?_
    exact u7 ⟨_,rfl,rfl⟩
   ·rw[<-hx,g47]
    refine D5 (eSG (oA 4 rfl ?_))
    refine j5 rfl rfl (subN (by omega) (by omega)) ?_
    refine oD ?_
    refine oD ?_
    refine oB 2 rfl ?_
    exact u7 ⟨_,rfl,rfl⟩
 ·simp only[Int.toNat_natCast]at g17
  refine D5 (q9 (eSG (oA 1 rfl ?_)))
  refine G9 rfl rfl rfl rfl rfl (c49 ..) rfl ?_
  refine D9 ?_
  refine J4 rfl (fun g59=>?_) (fun g59=>?_)
  ·simp only[Int.toNat_natCast]at g59
   obtain⟨r,hr⟩:∃r,Q5 V8 s i=r:=⟨_,rfl⟩
   obtain⟨w,hw⟩:∃w,(s.take r).drop i=w:=⟨_,rfl⟩
   have hrg:i<r:=by rw[<-hr];exact a5i hi (by simp only[V8,g59,Bool.true_or])
   have hrle:r<=s.length:=by rw[<-hr];exact a3R hi1
   have hwl:w.length=r-i:=by rw[<-hw,List.length_drop,List.length_take];omega
   have hw0:w.getD 0 0=s.getD i 0:=by
    rw[<-hw,List.getD_eq_getElem?_getD,List.getElem?_drop,Nat.add_zero,List.getElem?_take_of_lt (by omega),<-List.getD_eq_getElem?_getD]
   have hR:b07 s i =(match ltB 24 w.length with|true=>b2q none 14 i|false=>b2q (some ⟨a3n w,w,i,r-i⟩) 0 0):=by
    unfold b07;simp only[g17,g59,hr,hw]
   rw[hR]
   have h53:=c53 s i hi1 hs
   rw[hr]at h53
   refine eSG (oA 2 rfl ?_)
   refine G9 rfl rfl rfl rfl rfl (h53) rfl ?_
   refine oB 1 rfl (eSG (oA 3 rfl ?_))
   refine j5 rfl rfl (V5 (a3w (by omega) (by omega)) (show a2a (some (.str ((s.take (r:Int).toNat).drop (i:Int).toNat)))=some (.str w)by rw[<-hw];rfl)) ?_
   refine oB 1 rfl (q9 (eSG (oB 3 rfl ?_)))
   refine J4 rfl (fun g69=>?_) (fun g69=>?_)
   ·rw[show ltB 24 (w.length:Nat)=true from g69]
    refine eSG ?_
    refine oD ?_
    refine oA 1 rfl ?_
    refine oD ?_
    refine oB 2 rfl ?_
    exact u7 ⟨_,rfl,rfl⟩
   ·rw[show ltB 24 (w.length:Nat)=false from g69]
    refine D5 (eSG (oB 1 rfl ?_))
    refine a03 (f:=74) [73,74] (fun(x:Int) fr=>(11,.i x)::fr) (fun x=>x =(match leB 65 (w.getD 0 0).toNat&&leB (w.getD 0 0).toNat 90 with|true=>2|false=>1)) (by kernel_rfl) (by repeat(first|exact a1f rfl|exact a0r rfl|refine a0s (by kernel_rfl) ?_|refine Y0 ?_|refine Y1 (by kernel_rfl) ?_|refine a0q (by kernel_rfl) ?_)) ?_ ?_
    ·refine eSG (oA 1 rfl ?_)
     refine G9 rfl rfl rfl rfl rfl (c54 ..) rfl ?_
     refine D9 ?_
     refine J4 rfl (fun g74=>?_) (fun g74=>?_)
     ·refine o7 (oB 1 rfl ?_)
      refine⟨(2:Int),?_,?_,rfl⟩
      rotate_left 1
      ·(repeat(first|exact Off.refl|refine Off.right rfl ?_|refine Off.left rfl ?_|refine Off.over ?_|refine Off.Z9 rfl ?_))
      ·exact(cap1 (by rw[hw0];exact g74)).symm
     ·refine D5 ?_
      refine⟨(1:Int),?_,?_,rfl⟩
      rotate_left 1
      ·(repeat(first|exact Off.refl|refine Off.right rfl ?_|refine Off.left rfl ?_|refine Off.over ?_|refine Off.Z9 rfl ?_))
      ·exact(cap2 (by rw[hw0];exact g74)).symm
    ·intro x hx
     show Ev _ _ _ _ _ ((11,V.i x)::_) _ _
     refine q9 (eSG ?_)
     refine G9 rfl rfl rfl rfl rfl (c18 ..) rfl ?_
     refine oA 1 rfl ?_
     refine G9 rfl rfl rfl rfl rfl (c55 a1q w (by decide)) rfl ?_
     refine oB 1 rfl ?_
     refine J4 rfl (fun g78=>?_) (fun g78=>?_)
     ·have hk:a3n w=9:=by unfold a3n;rw[<-a6v w a1q 0,show leB 0 (a7W w a1q 0)=true from g78]
      rw[hk]
      refine o7 (oB 1 rfl (eSG (oA 5 rfl ?_)))
      refine j5 rfl rfl (subN (by omega) (by omega)) ?_
      refine oD ?_
      refine oD ?_
      refine oB 2 rfl ?_
      exact u7 ⟨_,rfl,rfl⟩
     ·have hk:a3n w=x:=by unfold a3n;rw[<-a6v w a1q 0,show leB 0 (a7W w a1q 0)=false from g78,hx];rfl
      rw[hk]
      refine D5 (eSG (oA 5 rfl ?_))
      refine j5 rfl rfl (subN (by omega) (by omega)) ?_
      refine oD ?_
      refine oD ?_
      refine oB 2 rfl ?_
      exact u7 ⟨_,rfl,rfl⟩
  ·simp only[Int.toNat_natCast]at g59
   obtain⟨w,hw⟩:∃w,a0f s i 2=w:=⟨_,rfl⟩
   have hwl:=b0Z 2 hi1
   rw[hw]at hwl
   have hwe:=signK_eq hw hi
   have h50:=c50 s i hi hs w hw
   refine D5 (q9 (eSG (oA 2 rfl ?_)))
   refine G9 rfl rfl rfl rfl rfl (h50) rfl ?_
   refine oB 1 rfl (eSG (oB 2 rfl ?_))
   refine J4 rfl (fun g91=>?_) (fun g91=>?_)
   ·have hne:w ≠ []:=by
     intro e;rw[e]at g91;simp[ltB]at g91
    have hR:b07 s i=b2q (some ⟨8,w,i,w.length⟩) 0 0:=by
     unfold b07;simp only[g17,g59,hw]
    rw[hR]
    refine eSG (oA 4 rfl ?_)
    refine j5 rfl rfl (addN (by omega)) ?_
    refine j5 rfl rfl (V5 (a3w (by omega) (by omega)) (show some (V.str ((s.take (i+w.length)).drop i))=some (.str w)by rw[<-hwe])) ?_
    refine oA 2 rfl ?_
    refine oD ?_
    refine oD ?_
    refine oB 2 rfl ?_
    exact u7 ⟨_,rfl,rfl⟩
   ·have hne:w=[]:=by
     cases w with
     | nil=>rfl
     | cons a l=>simp[ltB]at g91
    have hR:b07 s i=b2q none 10 i:=by
     unfold b07;simp only[g17,g59,hw,hne]
    rw[hR]
    refine D5 (eSG ?_)
    refine oD ?_
    refine oA 1 rfl ?_
    refine oD ?_
    refine oB 2 rfl ?_
    exact u7 ⟨_,rfl,rfl⟩
end Go.Proofs.YtmippldlhnajkaaGreatDoor.Sc
namespace Go.Proofs.YtmippldlhnajkaaGreatDoor.Sc
open Go Go.Vm
structure PS where
 j:Nat
 text:List UInt8
 w:Nat
def partV:PR->V
 | .err c a=>.tuple [.agg [.str [],.i 0,.bool false],.agg [.i c,.i (a:Int)]]
 | .fin t e=>.tuple [.agg [.str t,.i (e:Int),.bool false],.agg [.i 0,.i 0]]
 | .more t e=>.tuple [.agg [.str t,.i (e:Int),.bool true],.agg [.i 0,.i 0]]
theorem c29 (s:List UInt8)(q i ins:Nat)(hi:i<=s.length)(hs:s.length<=100000):E env (.call 73 [.str s,.i q,.i i,.i ins]) []=some (.ret (partV (part s q ins i [])) []):=by
 obtain⟨R,hR⟩:∃R,part s q ins i []=R:=⟨_,rfl⟩
 rw[hR]
 refine M0 rfl Tryz.func73 rfl rfl ?_
 refine eSG (oB 2 rfl (eSG (oB 1 rfl (q9 ?_))))
 refine I7 ?_
 refine a1D rfl ?_
 refine a3j (fun x:PS=>[(0,.str s),(1,.i (q:Nat)),(2,.i (x.j:Nat)),(3,.i (ins:Nat)),(8,.ptr 0 0),(9,.ptr 1 0),(10,.slice (.tag 2) x.text.length (X7 x.text))]) (fun x=>[(0,.row [.str [],.i 0,.bool false]),(1,.row [.i 0,.i 0]),(2,.tip x.w x.text.length)]) (fun x=>x.j<=s.length/\x.text.length<=x.j/\(x.w=0∨x.w=1)/\part s q ins x.j x.text=R) (fun x=>s.length-x.j) ⟨i,[],0⟩ ⟨hi,Nat.zero_le _,.inl rfl,hR⟩ ?_
 intro⟨j,text,w⟩ ⟨hj,htj,hw,hR⟩ ih
 simp only at hj htj hw hR ih
 show Ev _ _ _ _ _ [(0,.str s),(1,.i (q:Nat)),(2,.i (j:Nat)),(3,.i (ins:Nat)),(8,.ptr 0 0),(9,.ptr 1 0),(10,.slice (.tag 2) text.length (X7 text))] [(0,.row [.str [],.i 0,.bool false]),(1,.row [.i 0,.i 0]),(2,.tip w text.length)] _
 refine q9 ?_
 refine a03 (f:=73) [13,14,15,16,17,18,19,20,21] (fun(x:Bool) fr=>(22,.bool x)::fr) (fun x=>x =(decide (j<s.length)&&decide (32 <=(s.getD j 0).toNat))) (by kernel_rfl) (by repeat(first|exact a1f rfl|exact a0r rfl|refine a0s (by kernel_rfl) ?_|refine Y0 ?_|refine Y1 (by kernel_rfl) ?_|refine a0q (by kernel_rfl) ?_)) ?_ ?_
 ·refine o7 (oA 5 rfl ?_)
  refine E9 rfl rfl rfl (fun g17=>?_) (fun g17=>?_)
  ·try simp only[eqB,ltB,leB,eqS,decide_eq_true_eq,decide_eq_false_iff_not,beq_iff_eq,beq_eq_false_iff_ne,ne_eq,Int.toNat_natCast,Bool.not_eq_true',Bool.not_eq_false']at g17
   refine oA 2 rfl ?_
   refine j5 rfl rfl (V5 (N9 (by omega)) rfl) ?_
   refine oB 2 rfl ?_
   refine⟨?_,?_,?_,rfl⟩
   rotate_left 2
   ·(repeat(first|exact Off.refl|refine Off.right rfl ?_|refine Off.left rfl ?_|refine Off.over ?_|refine Off.Z9 rfl ?_))
   ·rw[decide_eq_true (show j<s.length by omega),Bool.true_and];simp only[leB,Int.toNat_natCast];rw[Bool.eq_iff_iff];simp;omega
  ·try simp only[eqB,ltB,leB,eqS,decide_eq_true_eq,decide_eq_false_iff_not,beq_iff_eq,beq_eq_false_iff_ne,ne_eq,Int.toNat_natCast,Bool.not_eq_true',Bool.not_eq_false']at g17
   refine oB 5 rfl ?_
   refine⟨?_,?_,?_,rfl⟩
   rotate_left 2
   ·(repeat(first|exact Off.refl|refine Off.right rfl ?_|refine Off.left rfl ?_|refine Off.over ?_|refine Off.Z9 rfl ?_))
   ·rw[decide_eq_false (by omega)];rfl
 ·intro x hx
  show Ev _ _ _ _ _ ((22,V.bool x)::_) _ _
  refine J4 rfl (fun g22=>?_) (fun g22=>?_)
  ·rw[g22]at hx
   have hx2:=hx.symm
   simp only[Bool.and_eq_true,decide_eq_true_eq]at hx2
   obtain⟨h1,h2⟩:=hx2
   refine D5 ?_
   refine I7 ?_
   refine eSG (oA 2 rfl ?_)
   refine j5 rfl rfl (V5 (N9 (by omega)) rfl) ?_
   refine oB 1 rfl (q9 (eSG (oB 2 rfl ?_)))
   refine J4 rfl (fun g27=>?_) (fun g27=>?_)
   ·try simp only[eqB,ltB,leB,eqS,decide_eq_true_eq,decide_eq_false_iff_not,beq_iff_eq,beq_eq_false_iff_ne,ne_eq,Int.toNat_natCast,Bool.not_eq_true',Bool.not_eq_false']at g27
    refine eSG (oA 1 rfl ?_)
    refine a7q rfl rfl rfl (b0F text) ?_
    refine oA 1 rfl ?_
    refine j5 rfl rfl (add1 (by omega)) ?_
    refine oD ?_
    refine oD ?_
    refine oB 2 rfl ?_
    rw[<-hR,b5y h1 h2 (by omega)]
    exact u7 ⟨_,rfl,rfl⟩
   ·try simp only[eqB,ltB,leB,eqS,decide_eq_true_eq,decide_eq_false_iff_not,beq_iff_eq,beq_eq_false_iff_ne,ne_eq,Int.toNat_natCast,Bool.not_eq_true',Bool.not_eq_false']at g27
    refine D5 (q9 (eSG (oB 2 rfl ?_)))
    refine J4 rfl (fun g35=>?_) (fun g35=>?_)
    ·try simp only[eqB,ltB,leB,eqS,decide_eq_true_eq,decide_eq_false_iff_not,beq_iff_eq,beq_eq_false_iff_ne,ne_eq,Int.toNat_natCast,Bool.not_eq_true',Bool.not_eq_false']at g35
     refine eSG (oA 3 rfl ?_)
     refine a0U rfl rfl rfl rfl rfl rfl rfl rfl rfl rfl rfl (a6j (a0k rfl) rfl) rfl rfl hw rfl (a2V text).symm (by show(text.length+1)*2<=_;omega) (a4Q text (s.getD j 0)) (a2j text (s.getD j 0)) rfl ?_
     refine oB 1 rfl (eSG (oA 1 rfl ?_))
     refine j5 rfl rfl (add1 (by omega)) ?_
     refine oB 1 rfl ?_
     refine a0g ?_
     exact⟨_,_,rfl,ih ⟨j+1,text++[s.getD j 0],1⟩ (by show s.length-(j+1)<s.length-j;omega) ⟨by show j+1<=s.length;omega,by show List.length (text++[s.getD j 0])<=j+1;simp only[List.length_append,List.length_cons,List.length_nil];omega,.inr rfl,by show part s q ins (j+1) (text++[s.getD j 0])=R;rw[<-hR,b6Z h1 h2 (by omega) (by omega)]⟩⟩
    ·try simp only[eqB,ltB,leB,eqS,decide_eq_true_eq,decide_eq_false_iff_not,beq_iff_eq,beq_eq_false_iff_ne,ne_eq,Int.toNat_natCast,Bool.not_eq_true',Bool.not_eq_false']at g35
     refine D5 (eSG (oB 1 rfl ?_))
     refine a03 (f:=73) [42,43,44,45,46,47,48,49,50] (fun(x:Nat) fr=>(12,.int .u8 (x:Nat))::fr) (fun x=>x =(s.getD (j+1) 0).toNat/\(x≠0->j+1<s.length)) (by kernel_rfl) (by repeat(first|exact a1f rfl|exact a0r rfl|refine a0s (by kernel_rfl) ?_|refine Y0 ?_|refine Y1 (by kernel_rfl) ?_|refine a0q (by kernel_rfl) ?_)) ?_ ?_
     ·refine eSG (oA 1 rfl ?_)
      refine j5 rfl rfl (add1 (by omega)) ?_
      refine oB 3 rfl ?_
      refine J4 rfl (fun g46=>?_) (fun g46=>?_)
      ·try simp only[eqB,ltB,leB,eqS,decide_eq_true_eq,decide_eq_false_iff_not,beq_iff_eq,beq_eq_false_iff_ne,ne_eq,Int.toNat_natCast,Bool.not_eq_true',Bool.not_eq_false']at g46
       refine o7 (oA 2 rfl ?_)
       refine j5 rfl rfl (add1 (by omega)) ?_
       refine j5 rfl rfl (V5 (N9 (by omega)) rfl) ?_
       refine oB 1 rfl ?_
       refine⟨((s.getD (j+1) 0).toNat),?_,?_,rfl⟩
       rotate_left 1
       ·(repeat(first|exact Off.refl|refine Off.right rfl ?_|refine Off.left rfl ?_|refine Off.over ?_|refine Off.Z9 rfl ?_))
       ·exact⟨rfl,fun _=>by omega⟩
      ·try simp only[eqB,ltB,leB,eqS,decide_eq_true_eq,decide_eq_false_iff_not,beq_iff_eq,beq_eq_false_iff_ne,ne_eq,Int.toNat_natCast,Bool.not_eq_true',Bool.not_eq_false']at g46
       refine D5 ?_
       refine⟨0,?_,?_,rfl⟩
       rotate_left 1
       ·(repeat(first|exact Off.refl|refine Off.right rfl ?_|refine Off.left rfl ?_|refine Off.over ?_|refine Off.Z9 rfl ?_))
       ·exact⟨by rw[b2h (show s.length<=j+1 by omega)];rfl,fun h=>absurd rfl h⟩
     ·intro x ⟨hx0,hxl⟩
      show Ev _ _ _ _ _ ((12,V.int .u8 (x:Nat))::_) _ _
      refine q9 (eSG (oB 1 rfl ?_))
      refine I7 ?_
      refine eSG (oB 2 rfl ?_)
      refine J4 rfl (fun g55=>?_) (fun g55=>?_)
      ·try simp only[eqB,ltB,leB,eqS,decide_eq_true_eq,decide_eq_false_iff_not,beq_iff_eq,beq_eq_false_iff_ne,ne_eq,Int.toNat_natCast,Bool.not_eq_true',Bool.not_eq_false']at g55
       refine o7 (oA 2 rfl ?_)
       refine a0U rfl rfl rfl rfl rfl rfl rfl rfl rfl rfl rfl (a6j (a0k rfl) rfl) rfl rfl hw rfl (a2V text).symm (by show(text.length+1)*2<=_;omega) (a4Q text (10)) (a2j text (10)) rfl ?_
       refine oB 1 rfl (o7 (oA 1 rfl ?_))
       refine j5 rfl rfl (add2 (by omega)) ?_
       refine oB 1 rfl ?_
       exact⟨_,_,rfl,ih ⟨j+2,text++[10],1⟩ (by show s.length-(j+2)<s.length-j;omega) ⟨by show j+2<=s.length;omega,by show List.length (text++[10])<=j+2;simp only[List.length_append,List.length_cons,List.length_nil];omega,.inr rfl,by show part s q ins (j+2) (text++[10])=R;rw[<-hR,part_n h1 h2 (by omega) (by omega)]⟩⟩
      ·try simp only[eqB,ltB,leB,eqS,decide_eq_true_eq,decide_eq_false_iff_not,beq_iff_eq,beq_eq_false_iff_ne,ne_eq,Int.toNat_natCast,Bool.not_eq_true',Bool.not_eq_false']at g55
       refine eSG (oB 2 rfl ?_)
       refine J4 rfl (fun g60=>?_) (fun g60=>?_)
       ·try simp only[eqB,ltB,leB,eqS,decide_eq_true_eq,decide_eq_false_iff_not,beq_iff_eq,beq_eq_false_iff_ne,ne_eq,Int.toNat_natCast,Bool.not_eq_true',Bool.not_eq_false']at g60
        refine o7 (oA 2 rfl ?_)
        refine a0U rfl rfl rfl rfl rfl rfl rfl rfl rfl rfl rfl (a6j (a0k rfl) rfl) rfl rfl hw rfl (a2V text).symm (by show(text.length+1)*2<=_;omega) (a4Q text (9)) (a2j text (9)) rfl ?_
        refine oB 1 rfl (o7 (oA 1 rfl ?_))
        refine j5 rfl rfl (add2 (by omega)) ?_
        refine oB 1 rfl ?_
        exact⟨_,_,rfl,ih ⟨j+2,text++[9],1⟩ (by show s.length-(j+2)<s.length-j;omega) ⟨by show j+2<=s.length;omega,by show List.length (text++[9])<=j+2;simp only[List.length_append,List.length_cons,List.length_nil];omega,.inr rfl,by show part s q ins (j+2) (text++[9])=R;rw[<-hR,part_t h1 h2 (by omega) (by omega)]⟩⟩
       ·try simp only[eqB,ltB,leB,eqS,decide_eq_true_eq,decide_eq_false_iff_not,beq_iff_eq,beq_eq_false_iff_ne,ne_eq,Int.toNat_natCast,Bool.not_eq_true',Bool.not_eq_false']at g60
        refine a03 (f:=73) [66,67] (fun(x:Bool) fr=>(65,.bool x)::fr) (fun y=>y =(decide (x=92)||decide (x=34))) (by kernel_rfl) (by repeat(first|exact a1f rfl|exact a0r rfl|refine a0s (by kernel_rfl) ?_|refine Y0 ?_|refine Y1 (by kernel_rfl) ?_|refine a0q (by kernel_rfl) ?_)) ?_ ?_
        ·refine eSG (oB 2 rfl ?_)
         refine J4 rfl (fun g65=>?_) (fun g65=>?_)
         ·refine D5 ?_
          refine⟨?_,?_,?_,rfl⟩
          rotate_left 2
          ·(repeat(first|exact Off.refl|refine Off.right rfl ?_|refine Off.left rfl ?_|refine Off.over ?_|refine Off.Z9 rfl ?_))
          ·rw[decide_eq_true (show x=92 by simp only[eqB,beq_iff_eq]at g65;omega)];first|rfl|exact g65
         ·refine o7 (oB 2 rfl ?_)
          refine⟨?_,?_,?_,rfl⟩
          rotate_left 2
          ·(repeat(first|exact Off.refl|refine Off.right rfl ?_|refine Off.left rfl ?_|refine Off.over ?_|refine Off.Z9 rfl ?_))
          ·rw[decide_eq_false (show ¬x=92 by simp only[eqB,beq_eq_false_iff_ne,ne_eq]at g65;omega),Bool.false_or];simp only[eqB];rw[Bool.eq_iff_iff];simp;omega
        ·intro y hy
         show Ev _ _ _ _ _ ((65,V.bool y)::_) _ _
         refine J4 rfl (fun g65=>?_) (fun g65=>?_)
         ·refine o7 (oA 3 rfl ?_)
          rw[g65]at hy
          have hy2:=hy.symm
          simp only[Bool.or_eq_true,decide_eq_true_eq]at hy2
          subst hx0
          refine a0U rfl rfl rfl rfl rfl rfl rfl rfl rfl rfl rfl (a6j (a0k rfl) rfl) rfl rfl hw rfl (a2V text).symm (by show(text.length+1)*2<=_;omega) (a4Q text (s.getD (j+1) 0)) (a2j text (s.getD (j+1) 0)) rfl ?_
          refine oB 1 rfl (o7 (oA 1 rfl ?_))
          refine j5 rfl rfl (add2 (by omega)) ?_
          refine oB 1 rfl ?_
          exact⟨_,_,rfl,ih ⟨j+2,text++[s.getD (j+1) 0],1⟩ (by show s.length-(j+2)<s.length-j;omega) ⟨by show j+2<=s.length;omega,by show List.length (text++[s.getD (j+1) 0])<=j+2;simp only[List.length_append,List.length_cons,List.length_nil];omega,.inr rfl,by show part s q ins (j+2) (text++[s.getD (j+1) 0])=R;rw[<-hR,b3m h1 h2 (by omega) (by omega)]⟩⟩
         ·refine eSG (oB 2 rfl ?_)
          refine J4 rfl (fun g72=>?_) (fun g72=>?_)
          ·rw[g65]at hy
           have hy2:=hy.symm
           simp only[Bool.or_eq_false_iff,decide_eq_false_iff_not]at hy2
           try simp only[eqB,ltB,leB,eqS,decide_eq_true_eq,decide_eq_false_iff_not,beq_iff_eq,beq_eq_false_iff_ne,ne_eq,Int.toNat_natCast,Bool.not_eq_true',Bool.not_eq_false']at g72
           refine q9 (eSG (oB 2 rfl ?_))
           refine J4 rfl (fun g75=>?_) (fun g75=>?_)
           ·try simp only[eqB,ltB,leB,eqS,decide_eq_true_eq,decide_eq_false_iff_not,beq_iff_eq,beq_eq_false_iff_ne,ne_eq,Int.toNat_natCast,Bool.not_eq_true',Bool.not_eq_false']at g75
            refine eSG ?_
            refine oD ?_
            refine oA 1 rfl ?_
            refine oD ?_
            refine oB 2 rfl ?_
            rw[<-hR,b60 h1 h2 (by omega) (by omega) (by omega)]
            exact u7 ⟨_,rfl,rfl⟩
           ·try simp only[eqB,ltB,leB,eqS,decide_eq_true_eq,decide_eq_false_iff_not,beq_iff_eq,beq_eq_false_iff_ne,ne_eq,Int.toNat_natCast,Bool.not_eq_true',Bool.not_eq_false']at g75
            refine D5 (eSG (oA 1 rfl ?_))
            refine a7q rfl rfl rfl (b0F text) ?_
            refine oA 1 rfl ?_
            refine j5 rfl rfl (add2 (by omega)) ?_
            refine oD ?_
            refine oD ?_
            refine oB 2 rfl ?_
            rw[<-hR,b3l h1 h2 (by omega) (by omega) (by omega)]
            exact u7 ⟨_,rfl,rfl⟩
          ·rw[g65]at hy
           have hy2:=hy.symm
           simp only[Bool.or_eq_false_iff,decide_eq_false_iff_not]at hy2
           try simp only[eqB,ltB,leB,eqS,decide_eq_true_eq,decide_eq_false_iff_not,beq_iff_eq,beq_eq_false_iff_ne,ne_eq,Int.toNat_natCast,Bool.not_eq_true',Bool.not_eq_false']at g72
           refine eSG ?_
           refine oD ?_
           refine oA 1 rfl ?_
           refine oD ?_
           refine oB 2 rfl ?_
           rw[<-hR,b9O h1 h2 (by omega) (by omega) (by omega) (by omega) (by omega) (by omega)]
           exact u7 ⟨_,rfl,rfl⟩
  ·have hP:part s q ins j text=.err 11 q:=by
    rw[g22]at hx
    rcases Nat.lt_or_ge j s.length with h|h
    ·rw[decide_eq_true h,Bool.true_and]at hx
     have hx2:=hx.symm
     simp only[decide_eq_false_iff_not]at hx2
     exact b9Q (by omega)
    ·exact b9P h
   rw[<-hR,hP]
   refine a0g ?_
   refine eSG ?_
   refine oD ?_
   refine oA 1 rfl ?_
   refine oD ?_
   refine oB 2 rfl ?_
   exact u7 ⟨_,rfl,rfl⟩
end Go.Proofs.YtmippldlhnajkaaGreatDoor.Sc
