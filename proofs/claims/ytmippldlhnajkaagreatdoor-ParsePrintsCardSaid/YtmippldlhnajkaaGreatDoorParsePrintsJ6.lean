/- Texts of ParsePrints, joined. -/
import Derived.Test.YtmippldlhnajkaaGreatDoorParsePrintsJ5
set_option maxRecDepth 100000
set_option maxHeartbeats 20000000
set_option linter.unusedSimpArgs false
set_option linter.unusedVariables false
set_option linter.unusedSectionVars false
namespace Go.Proofs.YtmippldlhnajkaaGreatDoor.Sc
open Go Go.Vm
theorem b5L {s:List UInt8}{i:Nat}(h:s.length<=i):s.getD i 0=0:=by rw[List.getD_eq_getElem?_getD,List.getElem?_eq_none h];rfl
theorem c27 (s:List UInt8)(i:Nat)(hi:i<=s.length)(hs:s.length<4611686018427387904):E env (.call 71 [.str s,.i i]) []=some (.ret (.i (a0C s i)) []):=by
 obtain⟨r,hr⟩:∃r,a0C s i=r:=⟨_,rfl⟩
 rw[hr];refine a1r rfl Tryz.func71 rfl rfl ?_;refine eSG (oB 1 rfl (F3 ?_));refine Y9 ?_;refine a6s rfl ?_;refine a9x (fun j=>[(0,.str s),(1,.i (j:Nat))]) (fun _=>[]) (fun j=>j<=s.length/\a0C s j=r) (fun j=>s.length-j) i ⟨hi,hr⟩ ?_;intro i ⟨hi,hr⟩ ih;refine F3 (eSG (oB 4 rfl ?_));refine a0E rfl (fun g8=>?_) (fun g8=>?_)
 ·replace g8:i<s.length:=by simpa [ltN]using g8
  refine L9 ?_;refine Y9 ?_;refine F3 (eSG (oA 2 rfl ?_));refine o7 rfl rfl (a1o (a0r (by omega)) rfl) ?_;refine M8 rfl rfl rfl rfl rfl (c47 ..) rfl ?_;refine H9 ?_;refine a0E rfl (fun g12=>?_) (fun g12=>?_)
  ·simp only[Int.toNat_natCast]at g12;refine eSG (oA 1 rfl ?_);refine o7 rfl rfl (add1 (by omega)) ?_;refine oB 1 rfl ?_;refine a4k ?_;exact⟨_,_,rfl,ih (i+1) (by omega) ⟨by omega,by rw[<-c5n g8 g12];exact hr⟩⟩
  ·simp only[Int.toNat_natCast]at g12;refine L9 (F3 ?_);refine a2Q (f:=71) [15,16,17,18,19,20,21,22,23,24,25,26,27,28,29,30,31] (fun(x:Bool) fr=>(32,.bool x)::fr) (fun x=>x = !(decide ((s.getD i 0).toNat=47)&&decide ((s.getD (i+1) 0).toNat=47))) (by kernel_rfl) (by repeat(first|exact a3a rfl|exact a1N rfl|refine a1O (by kernel_rfl) ?_|refine a0Q ?_|refine a0R (by kernel_rfl) ?_|refine a1M (by kernel_rfl) ?_)) ?_ ?_
   ·refine p9 (oA 2 rfl ?_);refine o7 rfl rfl (a1o (a0r (by omega)) rfl) ?_;refine oA 2 rfl ?_;refine N9 rfl rfl rfl (fun g19=>?_) (fun g19=>?_)
    ·try simp only[eqB,ltB,leB,eqS,decide_eq_true_eq,decide_eq_false_iff_not,beq_iff_eq,beq_eq_false_iff_ne,ne_eq,Int.toNat_natCast,Bool.not_eq_true',Bool.not_eq_false']at g19
     refine oB 13 rfl ?_;refine⟨?_,?_,?_,rfl⟩;rotate_left 2
     ·(repeat(first|exact Off.refl|refine Off.right rfl ?_|refine Off.left rfl ?_|refine Off.over ?_|refine Off.a0Z rfl ?_))
     ·rw[decide_eq_false (by omega)];rfl
    ·try simp only[eqB,ltB,leB,eqS,decide_eq_true_eq,decide_eq_false_iff_not,beq_iff_eq,beq_eq_false_iff_ne,ne_eq,Int.toNat_natCast,Bool.not_eq_true',Bool.not_eq_false']at g19
     refine oA 1 rfl ?_;refine o7 rfl rfl (add1 (by omega)) ?_;refine oA 5 rfl ?_;refine N9 rfl rfl rfl (fun g26=>?_) (fun g26=>?_)
     ·try simp only[eqB,ltB,leB,eqS,decide_eq_true_eq,decide_eq_false_iff_not,beq_iff_eq,beq_eq_false_iff_ne,ne_eq,Int.toNat_natCast,Bool.not_eq_true',Bool.not_eq_false']at g26
      refine oB 6 rfl ?_;refine⟨?_,?_,?_,rfl⟩;rotate_left 2
      ·(repeat(first|exact Off.refl|refine Off.right rfl ?_|refine Off.left rfl ?_|refine Off.over ?_|refine Off.a0Z rfl ?_))
      ·rw[b5L (show s.length<=i+1 by omega)];simp
     ·try simp only[eqB,ltB,leB,eqS,decide_eq_true_eq,decide_eq_false_iff_not,beq_iff_eq,beq_eq_false_iff_ne,ne_eq,Int.toNat_natCast,Bool.not_eq_true',Bool.not_eq_false']at g26
      refine oA 2 rfl ?_;refine o7 rfl rfl (add1 (by omega)) ?_;refine o7 rfl rfl (a1o (a0r (by omega)) rfl) ?_;refine oB 2 rfl ?_;refine⟨?_,?_,?_,rfl⟩;rotate_left 2
      ·(repeat(first|exact Off.refl|refine Off.right rfl ?_|refine Off.left rfl ?_|refine Off.over ?_|refine Off.a0Z rfl ?_))
      ·rw[decide_eq_true (show(s.getD i 0).toNat=47 by omega),Bool.true_and];simp only[eqB,Int.toNat_natCast];congr 1;rw[Bool.eq_iff_iff];simp;omega
   ·intro x hx;show Ev _ _ _ _ _ ((32,V.bool x)::_) _ _;refine a0E rfl (fun g32=>?_) (fun g32=>?_)
    ·obtain rfl:i=r:=by
      rw[<-hr];refine(skipE_no g8 g12 ?_).symm;rw[g32]at hx;have:=hx.symm;simp only[Bool.not_eq_true',Bool.and_eq_false_iff,decide_eq_false_iff_not]at this;exact this
     refine eSG (oB 2 rfl ?_);exact O5 ⟨_,rfl,rfl⟩
    ·replace g32:(s.getD i 0).toNat=47/\(s.getD (i+1) 0).toNat=47:=by
      rw[g32]at hx;have:=hx.symm;simp only[Bool.not_eq_false',Bool.and_eq_true,decide_eq_true_eq]at this;exact this
     obtain⟨R,hR⟩:∃R,Z7 nlB s i=R:=⟨_,rfl⟩
     have hRl:R<=s.length:=by rw[<-hR];exact b0w hi
     have hRi:i<R:=by rw[<-hR];exact b0v g8 (by simp only[nlB,decide_eq_true_eq];omega)
     refine L9 ?_;refine Y9 ?_;refine a6s rfl ?_;refine a9x (fun j=>[(0,.str s),(1,.i (j:Nat))]) (fun _=>[]) (fun j=>j<=s.length/\Z7 nlB s j=R) (fun j=>s.length-j) i ⟨hi,hR⟩ ?_;intro k ⟨hk,hkR⟩ ih1;refine F3 ?_;refine a2Q (f:=71) [34,35,36,37,38,39,40,41,42] (fun(x:Bool) fr=>(43,.bool x)::fr) (fun x=>x =(decide (k<s.length)&&nlB (s.getD k 0))) (by kernel_rfl) (by repeat(first|exact a3a rfl|exact a1N rfl|refine a1O (by kernel_rfl) ?_|refine a0Q ?_|refine a0R (by kernel_rfl) ?_|refine a1M (by kernel_rfl) ?_)) ?_ ?_
     ·refine p9 (oA 5 rfl ?_);refine N9 rfl rfl rfl (fun g38=>?_) (fun g38=>?_)
      ·try simp only[eqB,ltB,leB,eqS,decide_eq_true_eq,decide_eq_false_iff_not,beq_iff_eq,beq_eq_false_iff_ne,ne_eq,Int.toNat_natCast,Bool.not_eq_true',Bool.not_eq_false']at g38
       refine oA 2 rfl ?_;refine o7 rfl rfl (a1o (a0r (by omega)) rfl) ?_;refine oB 2 rfl ?_;refine⟨?_,?_,?_,rfl⟩;rotate_left 2
       ·(repeat(first|exact Off.refl|refine Off.right rfl ?_|refine Off.left rfl ?_|refine Off.over ?_|refine Off.a0Z rfl ?_))
       ·rw[decide_eq_true (show k<s.length by omega),Bool.true_and];simp only[nlB,eqB,Int.toNat_natCast];rw[Bool.eq_iff_iff];simp;omega
      ·try simp only[eqB,ltB,leB,eqS,decide_eq_true_eq,decide_eq_false_iff_not,beq_iff_eq,beq_eq_false_iff_ne,ne_eq,Int.toNat_natCast,Bool.not_eq_true',Bool.not_eq_false']at g38
       refine oB 5 rfl ?_;refine⟨?_,?_,?_,rfl⟩;rotate_left 2
       ·(repeat(first|exact Off.refl|refine Off.right rfl ?_|refine Off.left rfl ?_|refine Off.over ?_|refine Off.a0Z rfl ?_))
       ·rw[decide_eq_false (by omega)];rfl
     ·intro x hx;show Ev _ _ _ _ _ ((43,V.bool x)::_) _ _;refine a0E rfl (fun g43=>?_) (fun g43=>?_)
      ·replace g43:k<s.length/\nlB (s.getD k 0)=true:=by
        rw[g43]at hx;have:=hx.symm;simp only[Bool.and_eq_true,decide_eq_true_eq]at this;exact this
       refine L9 ?_;refine Y9 ?_;refine p9 (oA 1 rfl ?_);refine o7 rfl rfl (add1 (by omega)) ?_;refine oB 1 rfl ?_;exact⟨_,_,rfl,ih1 (k+1) (by omega) ⟨by omega,by rw[<-b33 g43.1 g43.2];exact hkR⟩⟩
      ·obtain rfl:k=R:=by
        rw[<-hkR];rw[g43]at hx;rcases Nat.lt_or_ge k s.length with h|h
        ·rw[decide_eq_true h,Bool.true_and]at hx;exact(c26 h hx.symm).symm
        ·exact(b9U h).symm
       refine a4k ?_;exact⟨_,_,rfl,ih k (by omega) ⟨hRl,by rw[<-hR,<-c9J g8 g32.1 g32.2];exact hr⟩⟩
 ·replace g8:s.length<=i:=by simpa [ltN]using g8
  obtain rfl:i=r:=by rw[<-hr,c9K g8]
  refine a4k ?_;refine eSG (oB 2 rfl ?_);exact O5 ⟨_,rfl,rfl⟩
theorem c51 (s:List UInt8)(i:Nat)(hi:i<=s.length)(hs:s.length<4611686018427387904):E env (.call 133 [.str s,.i i]) []=some (.ret (.i (Z7 M0 s i)) []):=by
 obtain⟨r,hr⟩:∃r,Z7 M0 s i=r:=⟨_,rfl⟩
 rw[hr];refine a1r rfl Tryz.func133 rfl rfl ?_;refine eSG (oB 1 rfl (F3 ?_));refine Y9 ?_;refine a6s rfl ?_;refine a9x (fun j=>[(0,.str s),(1,.i (j:Nat))]) (fun _=>[]) (fun j=>j<=s.length/\Z7 M0 s j=r) (fun j=>s.length-j) i ⟨hi,hr⟩ ?_;intro i ⟨hi,hr⟩ ih;refine F3 ?_;refine a2Q (f:=133) [5,6,7,8,9,10,11,12,13] (fun(x:Bool) fr=>(14,.bool x)::fr) (fun x=>x =(decide (i<s.length)&&M0 (s.getD i 0))) (by kernel_rfl) (by repeat(first|exact a3a rfl|exact a1N rfl|refine a1O (by kernel_rfl) ?_|refine a0Q ?_|refine a0R (by kernel_rfl) ?_|refine a1M (by kernel_rfl) ?_)) ?_ ?_
 ·refine p9 (oA 5 rfl ?_);refine N9 rfl rfl rfl (fun g9=>?_) (fun g9=>?_)
  ·try simp only[eqB,ltB,leB,eqS,decide_eq_true_eq,decide_eq_false_iff_not,beq_iff_eq,beq_eq_false_iff_ne,ne_eq,Int.toNat_natCast,Bool.not_eq_true',Bool.not_eq_false']at g9
   refine oA 2 rfl ?_;refine o7 rfl rfl (a1o (a0r (by omega)) rfl) ?_;refine M8 rfl rfl rfl rfl rfl (c48 ..) rfl ?_;refine oB 1 rfl ?_;refine⟨?_,?_,?_,rfl⟩;rotate_left 2
   ·(repeat(first|exact Off.refl|refine Off.right rfl ?_|refine Off.left rfl ?_|refine Off.over ?_|refine Off.a0Z rfl ?_))
   ·rw[decide_eq_true (show i<s.length by omega),Bool.true_and];simp only[Int.toNat_natCast]
  ·try simp only[eqB,ltB,leB,eqS,decide_eq_true_eq,decide_eq_false_iff_not,beq_iff_eq,beq_eq_false_iff_ne,ne_eq,Int.toNat_natCast,Bool.not_eq_true',Bool.not_eq_false']at g9
   refine oB 5 rfl ?_;refine⟨?_,?_,?_,rfl⟩;rotate_left 2
   ·(repeat(first|exact Off.refl|refine Off.right rfl ?_|refine Off.left rfl ?_|refine Off.over ?_|refine Off.a0Z rfl ?_))
   ·rw[decide_eq_false (by omega)];rfl
 ·intro x hx;show Ev _ _ _ _ _ ((14,V.bool x)::_) _ _;refine a0E rfl (fun g14=>?_) (fun g14=>?_)
  ·replace g14:i<s.length/\M0 (s.getD i 0)=true:=by
    rw[g14]at hx;have:=hx.symm;simp only[Bool.and_eq_true,decide_eq_true_eq]at this;exact this
   refine L9 ?_;refine Y9 ?_;refine p9 (oA 1 rfl ?_);refine o7 rfl rfl (add1 (by omega)) ?_;refine oB 1 rfl ?_;exact⟨_,_,rfl,ih (i+1) (by omega) ⟨by omega,by rw[<-b33 g14.1 g14.2];exact hr⟩⟩
  ·obtain rfl:i=r:=by
    rw[<-hr];rw[g14]at hx;rcases Nat.lt_or_ge i s.length with h|h
    ·rw[decide_eq_true h,Bool.true_and]at hx;exact(c26 h hx.symm).symm
    ·exact(b9U h).symm
   refine a4k ?_;refine eSG (oB 2 rfl ?_);exact O5 ⟨_,rfl,rfl⟩
theorem c53 (s:List UInt8)(i:Nat)(hi:i<=s.length)(hs:s.length<4611686018427387904):E env (.call 135 [.str s,.i i]) []=some (.ret (.i (Z7 a0X s i)) []):=by
 obtain⟨r,hr⟩:∃r,Z7 a0X s i=r:=⟨_,rfl⟩
 rw[hr];refine a1r rfl Tryz.func135 rfl rfl ?_;refine eSG (oB 1 rfl (F3 ?_));refine Y9 ?_;refine a6s rfl ?_;refine a9x (fun j=>[(0,.str s),(1,.i (j:Nat))]) (fun _=>[]) (fun j=>j<=s.length/\Z7 a0X s j=r) (fun j=>s.length-j) i ⟨hi,hr⟩ ?_;intro i ⟨hi,hr⟩ ih;refine F3 ?_;refine a2Q (f:=135) [5,6,7,8,9,10,11,12,13,14,15,16,17,18,19] (fun(x:Bool) fr=>(20,.bool x)::fr) (fun x=>x =(decide (i<s.length)&&a0X (s.getD i 0))) (by kernel_rfl) (by repeat(first|exact a3a rfl|exact a1N rfl|refine a1O (by kernel_rfl) ?_|refine a0Q ?_|refine a0R (by kernel_rfl) ?_|refine a1M (by kernel_rfl) ?_)) ?_ ?_
 ·refine p9 (oA 5 rfl ?_);refine N9 rfl rfl rfl (fun g9=>?_) (fun g9=>?_)
  ·try simp only[eqB,ltB,leB,eqS,decide_eq_true_eq,decide_eq_false_iff_not,beq_iff_eq,beq_eq_false_iff_ne,ne_eq,Int.toNat_natCast,Bool.not_eq_true',Bool.not_eq_false']at g9
   refine oA 2 rfl ?_;refine o7 rfl rfl (a1o (a0r (by omega)) rfl) ?_;refine M8 rfl rfl rfl rfl rfl (c49 ..) rfl ?_;refine oA 1 rfl ?_;refine N9 rfl rfl rfl (fun g14=>?_) (fun g14=>?_)
   ·try simp only[eqB,ltB,leB,eqS,decide_eq_true_eq,decide_eq_false_iff_not,beq_iff_eq,beq_eq_false_iff_ne,ne_eq,Int.toNat_natCast,Bool.not_eq_true',Bool.not_eq_false']at g14
    refine oB 6 rfl ?_;refine⟨?_,?_,?_,rfl⟩;rotate_left 2
    ·(repeat(first|exact Off.refl|refine Off.right rfl ?_|refine Off.left rfl ?_|refine Off.over ?_|refine Off.a0Z rfl ?_))
    ·rw[decide_eq_true (show i<s.length by omega),Bool.true_and];simp only[Int.toNat_natCast]at g14 ⊢;simp only[a0X,g14,Bool.true_or]
   ·try simp only[eqB,ltB,leB,eqS,decide_eq_true_eq,decide_eq_false_iff_not,beq_iff_eq,beq_eq_false_iff_ne,ne_eq,Int.toNat_natCast,Bool.not_eq_true',Bool.not_eq_false']at g14
    refine oA 2 rfl ?_;refine o7 rfl rfl (a1o (a0r (by omega)) rfl) ?_;refine M8 rfl rfl rfl rfl rfl (c48 ..) rfl ?_;refine oB 2 rfl ?_;refine⟨?_,?_,?_,rfl⟩;rotate_left 2
    ·(repeat(first|exact Off.refl|refine Off.right rfl ?_|refine Off.left rfl ?_|refine Off.over ?_|refine Off.a0Z rfl ?_))
    ·rw[decide_eq_true (show i<s.length by omega),Bool.true_and];simp only[Int.toNat_natCast]at g14 ⊢;simp only[a0X,g14,Bool.false_or]
  ·try simp only[eqB,ltB,leB,eqS,decide_eq_true_eq,decide_eq_false_iff_not,beq_iff_eq,beq_eq_false_iff_ne,ne_eq,Int.toNat_natCast,Bool.not_eq_true',Bool.not_eq_false']at g9
   refine oB 11 rfl ?_;refine⟨?_,?_,?_,rfl⟩;rotate_left 2
   ·(repeat(first|exact Off.refl|refine Off.right rfl ?_|refine Off.left rfl ?_|refine Off.over ?_|refine Off.a0Z rfl ?_))
   ·rw[decide_eq_false (by omega)];rfl
 ·intro x hx;show Ev _ _ _ _ _ ((20,V.bool x)::_) _ _;refine a0E rfl (fun g20=>?_) (fun g20=>?_)
  ·replace g20:i<s.length/\a0X (s.getD i 0)=true:=by
    rw[g20]at hx;have:=hx.symm;simp only[Bool.and_eq_true,decide_eq_true_eq]at this;exact this
   refine L9 ?_;refine Y9 ?_;refine p9 (oA 1 rfl ?_);refine o7 rfl rfl (add1 (by omega)) ?_;refine oB 1 rfl ?_;exact⟨_,_,rfl,ih (i+1) (by omega) ⟨by omega,by rw[<-b33 g20.1 g20.2];exact hr⟩⟩
  ·obtain rfl:i=r:=by
    rw[<-hr];rw[g20]at hx;rcases Nat.lt_or_ge i s.length with h|h
    ·rw[decide_eq_true h,Bool.true_and]at hx;exact(c26 h hx.symm).symm
    ·exact(b9U h).symm
   refine a4k ?_;refine eSG (oB 2 rfl ?_);exact O5 ⟨_,rfl,rfl⟩
theorem c52 (w:List UInt8)(b:Bool)(hb:(ltB 19 w.length ||(eqB w.length 19 && !(ltS w a4F||eqS w a4F)))=b):E env (.call 134 [.str w]) []=some (.ret (.bool b) []):=by
 refine a1r rfl Tryz.func134 rfl rfl ?_;refine eSG (oB 1 rfl (eSG (oB 1 rfl (eSG (oA 6 rfl ?_)))));refine N9 rfl rfl rfl (fun g9=>?_) (fun g9=>?_)
 ·refine oB 12 rfl ?_;obtain rfl:b=true:=by rw[<-hb,show ltB 19 (w.length:Nat)=true from g9];rfl
  exact O5 ⟨_,rfl,rfl⟩
 ·refine oA 6 rfl ?_;refine N9 rfl rfl rfl (fun g15=>?_) (fun g15=>?_)
  ·refine oB 6 rfl ?_;subst hb;rw[show ltB 19 (w.length:Nat)=false from g9,show eqB (w.length:Nat) 19=true from g15];exact O5 ⟨_,rfl,rfl⟩
  ·refine oB 6 rfl ?_;subst hb;rw[show ltB 19 (w.length:Nat)=false from g9,show eqB (w.length:Nat) 19=false from g15];exact O5 ⟨_,rfl,rfl⟩
end Go.Proofs.YtmippldlhnajkaaGreatDoor.Sc
namespace Go.Proofs.YtmippldlhnajkaaGreatDoor.Sc
open Go Go.Vm
def b03 (x:List UInt8):List (List UInt8)->Nat->Int
 | [],_=>-1
 | a::r,k=>match decide (a=x)with|true=>(k:Int)|false=>b03 x r (k+1)
theorem a9h (x:List UInt8):∀(l:List (List UInt8)) (k:Nat),leB 0 (b03 x l k)=hasL l x
 | [],k=>by simp[b03,leB,hasL]
 | a::r,k=>by
  have ih:=a9h x r (k+1);simp only[hasL,List.any_cons]at ih ⊢;simp only[b03];cases h:decide (a=x)with
  | true=>simp[leB]
  | false=>simp only[ih];simp
theorem ldc9 {l:List (List UInt8)}{i:Nat}{H:Hp}(h:i<l.length):a4D env.T 9 (.cptr ((l.map V.str).drop ((i:Int).toNat*1))) H=some (.str (l.getD i [])):=by
 show((l.map V.str).drop ((i:Int).toNat*1)).head? = _;simp[h]
theorem b8M {x:List UInt8}{l:List (List UInt8)}{i:Nat}(h:i<l.length):b03 x (l.drop i) i =(match decide (l.getD i []=x)with|true=>(i:Int)|false=>b03 x (l.drop (i+1)) (i+1)):=by
 rw[List.drop_eq_getElem_cons h];simp only[b03];simp[h]
theorem c55 (l:List (List UInt8))(x:List UInt8)(hl:l.length<1000000):E env (.call 137 [.slice .sealed l.length (l.map V.str),.str x]) []=some (.ret (.i (b03 x l 0)) []):=by
 obtain⟨r,hr⟩:∃r,b03 x (l.drop 0) 0=r:=⟨_,rfl⟩
 rw[List.drop_zero]at hr;rw[hr];have hr0:b03 x (l.drop 0) 0=r:=hr;refine a1r rfl Tryz.func137 rfl rfl ?_;refine eSG (oB 1 rfl (F3 (eSG (oB 1 rfl ?_))));refine Y9 ?_;refine a6s rfl ?_;refine a9x (fun j=>[(0,.slice .sealed l.length (l.map V.str)),(1,.str x),(5,.i (j:Nat))]) (fun _=>[]) (fun j=>j<=l.length/\b03 x (l.drop j) j=r) (fun j=>l.length-j) 0 ⟨Nat.zero_le _,hr0⟩ ?_;intro i ⟨hi,hr⟩ ih;refine F3 (eSG (oB 4 rfl ?_));refine a0E rfl (fun g9=>?_) (fun g9=>?_)
 ·replace g9:i<l.length:=by simpa [ltN]using g9
  refine L9 (F3 ?_);refine Y9 ?_;refine eSG (oA 2 rfl ?_);refine o7 rfl rfl (a1o (a0r (by omega)) rfl) ?_;refine a0G rfl rfl rfl (ldc9 g9) ?_;refine oB 2 rfl ?_;refine a0E rfl (fun g17=>?_) (fun g17=>?_)
  ·obtain rfl:r =(i:Int):=by
    simp only[eqS,beq_iff_eq]at g17;rw[<-hr,b8M g9,decide_eq_true g17]
   refine eSG (oB 2 rfl ?_);exact O5 ⟨_,rfl,rfl⟩
  ·simp only[eqS,beq_eq_false_iff_ne,ne_eq]at g17;refine L9 (p9 (oA 1 rfl ?_));refine o7 rfl rfl (add1 (by omega)) ?_;refine oB 1 rfl ?_;exact⟨_,_,rfl,ih (i+1) (by omega) ⟨by omega,by rw[<-hr,b8M g9,decide_eq_false g17]⟩⟩
 ·replace g9:l.length<=i:=by simpa [ltN]using g9
  obtain rfl:r = -1:=by rw[<-hr,List.drop_eq_nil_of_le g9];rfl
  refine a4k ?_;refine eSG (oB 1 rfl ?_);exact O5 ⟨_,rfl,rfl⟩
theorem c19:E env (.call 173 []) []=some (.ret (.slice .sealed b2u.length (b2u.map V.str)) []):=(a1P env).le 5 _ _ _ (by kernel_rfl)
theorem c18:E env (.call 138 []) []=some (.ret (.slice .sealed b4e.length (b4e.map V.str)) []):=(a1P env).le 5 _ _ _ (by kernel_rfl)
theorem c50 (s:List UInt8)(i:Nat)(hi:i<s.length)(hs:s.length<4611686018427387904)(w:List UInt8)(hw:a2a s i 2=w):E env (.call 132 [.str s,.i i]) []=some (.ret (.i w.length) []):=by
 have h1:leB ((i+1:Nat):Int) s.length=true:=by simp only[leB,decide_eq_true_eq];omega
 simp only[a2a,h1,Bool.true_and]at hw;refine a1r rfl Tryz.func132 rfl rfl ?_;refine eSG (oB 1 rfl (eSG ?_));refine M8 rfl rfl rfl rfl rfl (c19 ..) rfl ?_;refine oB 1 rfl (F3 ?_);refine a2Q (f:=132) [7,8,9,10,11,12,13,14,15,16,17,18,19,20] (fun(x:Bool) fr=>(21,.bool x)::fr) (fun x=>x =(leB ((i+2:Nat):Int) s.length&&hasL b2u ((s.take (i+2)).drop i))) (by kernel_rfl) (by repeat(first|exact a3a rfl|exact a1N rfl|refine a1O (by kernel_rfl) ?_|refine a0Q ?_|refine a0R (by kernel_rfl) ?_|refine a1M (by kernel_rfl) ?_)) ?_ ?_
 ·refine p9 (oA 1 rfl ?_);refine o7 rfl rfl (addN (k:=2) (by omega)) ?_;refine oA 4 rfl ?_;refine N9 rfl rfl rfl (fun g12=>?_) (fun g12=>?_)
  ·have g12':=g12;simp only[leB,decide_eq_true_eq]at g12';refine oA 4 rfl ?_;refine o7 rfl rfl (addN (k:=2) (by omega)) ?_;refine o7 rfl rfl (a1o (a9r (by omega) (by omega)) rfl) ?_;refine M8 rfl rfl rfl rfl rfl (c55 b2u _ (by decide)) rfl ?_;refine oB 2 rfl ?_;refine⟨?_,?_,?_,rfl⟩;rotate_left 2
   ·(repeat(first|exact Off.refl|refine Off.right rfl ?_|refine Off.left rfl ?_|refine Off.over ?_|refine Off.a0Z rfl ?_))
   ·rw[g12,Bool.true_and];exact a9h _ _ _
  ·refine oB 9 rfl ?_;refine⟨?_,?_,?_,rfl⟩;rotate_left 2
   ·(repeat(first|exact Off.refl|refine Off.right rfl ?_|refine Off.left rfl ?_|refine Off.over ?_|refine Off.a0Z rfl ?_))
   ·rw[g12];rfl
 ·intro x hx;show Ev _ _ _ _ _ ((21,V.bool x)::_) _ _;refine a0E rfl (fun g21=>?_) (fun g21=>?_)
  ·obtain rfl:w =(s.take (i+2)).drop i:=by rw[<-hw,<-hx,g21]
   have hl:((s.take (i+2)).drop i).length=2:=by
    rw[g21]at hx;have:=hx.symm;simp only[Bool.and_eq_true,leB,decide_eq_true_eq]at this;rw[List.length_drop,List.length_take];omega
   rw[hl];refine eSG (oB 1 rfl ?_);exact O5 ⟨_,rfl,rfl⟩
  ·rw[g21]at hx;rw[<-hx]at hw;refine L9 (F3 (eSG (oA 4 rfl ?_)));refine o7 rfl rfl (addN (k:=1) (by omega)) ?_;refine o7 rfl rfl (a1o (a9r (by omega) (by omega)) rfl) ?_;refine M8 rfl rfl rfl rfl rfl (c55 b2u _ (by decide)) rfl ?_;refine oB 1 rfl ?_;refine a0E rfl (fun g29=>?_) (fun g29=>?_)
   ·replace g29:hasL b2u ((s.take (i+1)).drop i)=true:=(a9h _ _ _).symm.trans g29;obtain rfl:w =(s.take (i+1)).drop i:=by rw[<-hw];simp only[g29]
    have hl:((s.take (i+1)).drop i).length=1:=by rw[List.length_drop,List.length_take];omega
    rw[hl];refine eSG (oB 1 rfl ?_);exact O5 ⟨_,rfl,rfl⟩
   ·replace g29:hasL b2u ((s.take (i+1)).drop i)=false:=(a9h _ _ _).symm.trans g29;obtain rfl:w=[]:=by rw[<-hw];simp only[g29]
    refine L9 (eSG (oB 1 rfl ?_));exact O5 ⟨_,rfl,rfl⟩
theorem c28 (s:List UInt8)(i:Nat)(hi:i<s.length)(hs:s.length<4611686018427387904)(b:Bool)(hb:(decide ((s.getD i 0).toNat=34)||M0 (s.getD i 0)||a0x (s.getD i 0)||decide (a2a s i 2 ≠ []))=b):E env (.call 72 [.str s,.i i]) []=some (.ret (.bool b) []):=by
 refine a1r rfl Tryz.func72 rfl rfl ?_;refine eSG (oB 1 rfl (eSG (oA 2 rfl ?_)));refine o7 rfl rfl (a1o (a0r (by omega)) rfl) ?_;refine oA 2 rfl ?_;refine N9 rfl rfl rfl (fun g9=>?_) (fun g9=>?_)
 ·replace g9:(s.getD i 0).toNat=34:=by simp only[eqB,Int.toNat_natCast,beq_iff_eq]at g9;omega
  refine oB 18 rfl ?_;obtain rfl:b=true:=by rw[<-hb,decide_eq_true g9];rfl
  exact O5 ⟨_,rfl,rfl⟩
 ·replace g9:(s.getD i 0).toNat≠34:=by simp only[eqB,Int.toNat_natCast,beq_eq_false_iff_ne,ne_eq]at g9;omega
  refine oA 2 rfl ?_;refine o7 rfl rfl (a1o (a0r (by omega)) rfl) ?_;refine M8 rfl rfl rfl rfl rfl (c48 ..) rfl ?_;refine oA 2 rfl ?_;refine N9 rfl rfl rfl (fun g15=>?_) (fun g15=>?_)
  ·simp only[Int.toNat_natCast]at g15;refine oB 12 rfl ?_;obtain rfl:b=true:=by rw[<-hb,g15];simp
   exact O5 ⟨_,rfl,rfl⟩
  ·simp only[Int.toNat_natCast]at g15;refine oA 2 rfl ?_;refine o7 rfl rfl (a1o (a0r (by omega)) rfl) ?_;refine M8 rfl rfl rfl rfl rfl (c49 ..) rfl ?_;refine oA 2 rfl ?_;refine N9 rfl rfl rfl (fun g21=>?_) (fun g21=>?_)
   ·simp only[Int.toNat_natCast]at g21;refine oB 6 rfl ?_;obtain rfl:b=true:=by rw[<-hb,g21];simp
    exact O5 ⟨_,rfl,rfl⟩
   ·simp only[Int.toNat_natCast]at g21;refine oA 2 rfl ?_;refine M8 rfl rfl rfl rfl rfl (c50 s i hi hs _ rfl) rfl ?_;refine oB 3 rfl ?_;subst hb;rw[decide_eq_false g9,g15,g21];have:ltB 0 ((a2a s i 2).length:Nat) =(false||false||false||decide (a2a s i 2 ≠ [])):=by
     simp only[ltB];rw[Bool.eq_iff_iff];simp[List.length_pos_iff]
    rw[<-this];exact O5 ⟨_,rfl,rfl⟩
end Go.Proofs.YtmippldlhnajkaaGreatDoor.Sc
namespace Go.Proofs.YtmippldlhnajkaaGreatDoor.Sc
open Go Go.Vm
def b5U:Option Tok->Int->Nat->V|some t,_,_=>.tuple [.agg (tokC t.k t.t t.a t.l),.agg [.i 0,.i 0]]|none,c,a=>.tuple [.agg [.i 0,.str [],.i 0,.i 0],.agg [.i c,.i (a:Int)]]
def b4E (s:List UInt8)(i:Nat):V :=
 match M0 (s.getD i 0)with
 | true=>match a3x ((s.take (Z7 M0 s i)).drop i) (s.getD (Z7 M0 s i) 0)with
  | true=>b5U none 13 i
  | false=>b5U (some ⟨3,(s.take (Z7 M0 s i)).drop i,i,Z7 M0 s i-i⟩) 0 0
 | false=>match a0x (s.getD i 0)with
  | true=>match ltB 24 ((s.take (Z7 a0X s i)).drop i).length with
   | true=>b5U none 14 i
   | false=>b5U (some ⟨a9w ((s.take (Z7 a0X s i)).drop i),(s.take (Z7 a0X s i)).drop i,i,Z7 a0X s i-i⟩) 0 0
  | false=>match a2a s i 2 with
   | []=>b5U none 10 i
   | w=>b5U (some ⟨8,w,i,w.length⟩) 0 0
theorem signK_eq {s:List UInt8}{i:Nat}{w:List UInt8}(h:a2a s i 2=w)(hi:i<s.length):w =(s.take (i+w.length)).drop i:=by
 have h1:leB ((i+1:Nat):Int) s.length=true:=by simp only[leB,decide_eq_true_eq];omega
 simp only[a2a,h1,Bool.true_and]at h;split at h
 ·rename_i hx;simp only[Bool.and_eq_true,leB,decide_eq_true_eq]at hx;have hl:((s.take (i+2)).drop i).length=2:=by rw[List.length_drop,List.length_take];omega
  rw[<-h];show _ =(s.take (i+((s.take (i+2)).drop i).length)).drop i;rw[hl]
 ·split at h
  ·have hl:((s.take (i+1)).drop i).length=1:=by rw[List.length_drop,List.length_take];omega
   rw[<-h];show _ =(s.take (i+((s.take (i+1)).drop i).length)).drop i;rw[hl]
  ·subst h;simp
section
variable {w:List UInt8} {nx:UInt8}
theorem bad_eq:a3x w nx =((ltB 1 w.length&&eqB (w.getD 0 0).toNat 48) ||(ltB 19 w.length ||(eqB w.length 19 && !(ltS w a4F||eqS w a4F)))||a0x nx):=by
 unfold a3x;simp only[Bool.or_assoc]
theorem bad1 (h1:ltB 1 w.length=true)(h2:eqB (w.getD 0 0).toNat 48=true):a3x w nx=true:=by rw[bad_eq,h1,h2];rfl
theorem bad2 (h1:ltB 1 w.length=true)(h2:eqB (w.getD 0 0).toNat 48=false)(h3:(ltB 19 w.length ||(eqB w.length 19 && !(ltS w a4F||eqS w a4F)))=true):a3x w nx=true:=by rw[bad_eq,h1,h2,h3];rfl
theorem bad3 (h1:ltB 1 w.length=true)(h2:eqB (w.getD 0 0).toNat 48=false)(h3:(ltB 19 w.length ||(eqB w.length 19 && !(ltS w a4F||eqS w a4F)))=false):a3x w nx=a0x nx:=by rw[bad_eq,h1,h2,h3];rfl
theorem bad5 (h1:ltB 1 w.length=false)(h3:(ltB 19 w.length ||(eqB w.length 19 && !(ltS w a4F||eqS w a4F)))=true):a3x w nx=true:=by rw[bad_eq,h1,h3];rfl
theorem bad6 (h1:ltB 1 w.length=false)(h3:(ltB 19 w.length ||(eqB w.length 19 && !(ltS w a4F||eqS w a4F)))=false):a3x w nx=a0x nx:=by rw[bad_eq,h1,h3];rfl
theorem b82 {s:List UInt8}{r:Nat}(h:s.length<=r):a0x (s.getD r 0)=false:=by rw[b5L h];rfl
theorem bad4 {s:List UInt8}{r:Nat}(h1:ltB 1 w.length=true)(h2:eqB (w.getD 0 0).toNat 48=false)(h3:(ltB 19 w.length ||(eqB w.length 19 && !(ltS w a4F||eqS w a4F)))=false)(h:s.length<=r):a3x w (s.getD r 0)=false:=by rw[bad3 h1 h2 h3,b82 h]
theorem bad7 {s:List UInt8}{r:Nat}(h1:ltB 1 w.length=false)(h3:(ltB 19 w.length ||(eqB w.length 19 && !(ltS w a4F||eqS w a4F)))=false)(h:s.length<=r):a3x w (s.getD r 0)=false:=by rw[bad6 h1 h3,b82 h]
theorem cap1 {b:UInt8}(h:capB b=true):(match leB 65 b.toNat&&leB b.toNat 90 with|true=>2|false=>(1:Int))=2:=by
 have:(leB 65 b.toNat&&leB b.toNat 90)=true:=by rw[<-h,<-c1Y];rfl
 rw[this]
theorem cap2 {b:UInt8}(h:capB b=false):(match leB 65 b.toNat&&leB b.toNat 90 with|true=>2|false=>(1:Int))=1:=by
 have:(leB 65 b.toNat&&leB b.toNat 90)=false:=by rw[<-h,<-c1Y];rfl
 rw[this]
end
theorem c30 (s:List UInt8)(i:Nat)(hi:i<s.length)(hs:s.length<4611686018427387904):E env (.call 74 [.str s,.i i]) []=some (.ret (b4E s i) []):=by
 have hi1:i<=s.length:=by omega
 refine a1r rfl Tryz.func74 rfl rfl ?_;refine eSG (oB 2 rfl (eSG (oA 2 rfl ?_)));refine o7 rfl rfl (a1o (a0r (by omega)) rfl) ?_;refine oB 1 rfl (F3 (eSG (oA 1 rfl ?_)));refine M8 rfl rfl rfl rfl rfl (c48 ..) rfl ?_;refine H9 ?_;refine a0E rfl (fun g17=>?_) (fun g17=>?_)
 ·simp only[Int.toNat_natCast]at g17;obtain⟨r,hr⟩:∃r,Z7 M0 s i=r:=⟨_,rfl⟩
  obtain⟨w,hw⟩:∃w,(s.take r).drop i=w:=⟨_,rfl⟩
  have hrg:i<r:=by rw[<-hr];exact b0v hi g17
  have hrle:r<=s.length:=by rw[<-hr];exact b0w hi1
  have hwl:w.length=r-i:=by rw[<-hw,List.length_drop,List.length_take];omega
  have hw0:w.getD 0 0=s.getD i 0:=by
   rw[<-hw,List.getD_eq_getElem?_getD,List.getElem?_drop,Nat.add_zero,List.getElem?_take_of_lt (by omega),<-List.getD_eq_getElem?_getD]
  have hR:b4E s i =(match a3x w (s.getD r 0)with|true=>b5U none 13 i|false=>b5U (some ⟨3,w,i,r-i⟩) 0 0):=by
   unfold b4E;simp only[g17,hr,hw]
  rw[hR];have h51:=c51 s i hi1 hs;rw[hr]at h51;refine eSG (oA 2 rfl ?_);refine M8 rfl rfl rfl rfl rfl (h51) rfl ?_;refine oB 1 rfl (eSG (oA 3 rfl ?_));refine o7 rfl rfl (a1o (a9r (by omega) (by omega)) (show a4g (some (.str ((s.take (r:Int).toNat).drop (i:Int).toNat)))=some (.str w)by rw[<-hw];rfl)) ?_;refine oB 1 rfl (F3 ?_);refine a2Q (f:=74) [25,26,27,28,29,30,31,32,33,34,35,36,37,38,39,40,41,42,43,44,45,46] (fun(x:Bool) fr=>(47,.bool x)::fr) (fun x=>x=a3x w (s.getD r 0)) (by kernel_rfl) (by repeat(first|exact a3a rfl|exact a1N rfl|refine a1O (by kernel_rfl) ?_|refine a0Q ?_|refine a0R (by kernel_rfl) ?_|refine a1M (by kernel_rfl) ?_)) ?_ ?_
  ·refine p9 (oA 4 rfl ?_);refine N9 rfl rfl rfl (fun g28=>?_) (fun g28=>?_)
   ·refine oA 4 rfl ?_;refine N9 rfl rfl rfl (fun g32=>?_) (fun g32=>?_)
    ·refine oB 15 rfl ?_;refine⟨?_,?_,?_,rfl⟩;rotate_left 2
     ·(repeat(first|exact Off.refl|refine Off.right rfl ?_|refine Off.left rfl ?_|refine Off.over ?_|refine Off.a0Z rfl ?_))
     ·exact(bad1 g28 (by rw[hw0];exact g32)).symm
    ·refine oA 1 rfl ?_;refine M8 rfl rfl rfl rfl rfl (c52 w _ rfl) rfl ?_;refine oA 2 rfl ?_;refine N9 rfl rfl rfl (fun g36=>?_) (fun g36=>?_)
     ·refine oB 11 rfl ?_;refine⟨?_,?_,?_,rfl⟩;rotate_left 2
      ·(repeat(first|exact Off.refl|refine Off.right rfl ?_|refine Off.left rfl ?_|refine Off.over ?_|refine Off.a0Z rfl ?_))
      ·exact(bad2 g28 (by rw[hw0];exact g32) g36).symm
     ·refine oA 5 rfl ?_;refine N9 rfl rfl rfl (fun g41=>?_) (fun g41=>?_)
      ·have g41':=g41;simp only[ltB,decide_eq_true_eq]at g41';refine oA 2 rfl ?_;refine o7 rfl rfl (a1o (a0r (by omega)) rfl) ?_;refine M8 rfl rfl rfl rfl rfl (c49 ..) rfl ?_;refine oB 2 rfl ?_;refine⟨?_,?_,?_,rfl⟩;rotate_left 2
       ·(repeat(first|exact Off.refl|refine Off.right rfl ?_|refine Off.left rfl ?_|refine Off.over ?_|refine Off.a0Z rfl ?_))
       ·exact(bad3 g28 (by rw[hw0];exact g32) g36).symm
      ·have g41':=g41;simp only[ltB,decide_eq_false_iff_not]at g41';refine oB 6 rfl ?_;refine⟨?_,?_,?_,rfl⟩;rotate_left 2
       ·(repeat(first|exact Off.refl|refine Off.right rfl ?_|refine Off.left rfl ?_|refine Off.over ?_|refine Off.a0Z rfl ?_))
       ·exact(bad4 g28 (by rw[hw0];exact g32) g36 (by omega)).symm
   ·refine oA 5 rfl ?_;refine M8 rfl rfl rfl rfl rfl (c52 w _ rfl) rfl ?_;refine oA 2 rfl ?_;refine N9 rfl rfl rfl (fun g36=>?_) (fun g36=>?_)
    ·refine oB 11 rfl ?_;refine⟨?_,?_,?_,rfl⟩;rotate_left 2
     ·(repeat(first|exact Off.refl|refine Off.right rfl ?_|refine Off.left rfl ?_|refine Off.over ?_|refine Off.a0Z rfl ?_))
     ·exact(bad5 g28 g36).symm
    ·refine oA 5 rfl ?_;refine N9 rfl rfl rfl (fun g41=>?_) (fun g41=>?_)
     ·have g41':=g41;simp only[ltB,decide_eq_true_eq]at g41';refine oA 2 rfl ?_;refine o7 rfl rfl (a1o (a0r (by omega)) rfl) ?_;refine M8 rfl rfl rfl rfl rfl (c49 ..) rfl ?_;refine oB 2 rfl ?_;refine⟨?_,?_,?_,rfl⟩;rotate_left 2
      ·(repeat(first|exact Off.refl|refine Off.right rfl ?_|refine Off.left rfl ?_|refine Off.over ?_|refine Off.a0Z rfl ?_))
      ·exact(bad6 g28 g36).symm
     ·have g41':=g41;simp only[ltB,decide_eq_false_iff_not]at g41';refine oB 6 rfl ?_;refine⟨?_,?_,?_,rfl⟩;rotate_left 2
      ·(repeat(first|exact Off.refl|refine Off.right rfl ?_|refine Off.left rfl ?_|refine Off.over ?_|refine Off.a0Z rfl ?_))
      ·exact(bad7 g28 g36 (by omega)).symm
  ·intro x hx;show Ev _ _ _ _ _ ((47,V.bool x)::_) _ _;refine a0E rfl (fun g47=>?_) (fun g47=>?_)
   ·rw[<-hx,g47];refine eSG ?_;refine oD ?_;refine oA 1 rfl ?_;refine oD ?_;refine oB 2 rfl ?_;exact O5 ⟨_,rfl,rfl⟩
   ·rw[<-hx,g47];refine L9 (eSG (oA 4 rfl ?_));refine o7 rfl rfl (subN (by omega) (by omega)) ?_;refine oD ?_;refine oD ?_;refine oB 2 rfl ?_;exact O5 ⟨_,rfl,rfl⟩
 ·simp only[Int.toNat_natCast]at g17;refine L9 (F3 (eSG (oA 1 rfl ?_)));refine M8 rfl rfl rfl rfl rfl (c49 ..) rfl ?_;refine H9 ?_;refine a0E rfl (fun g59=>?_) (fun g59=>?_)
  ·simp only[Int.toNat_natCast]at g59;obtain⟨r,hr⟩:∃r,Z7 a0X s i=r:=⟨_,rfl⟩
   obtain⟨w,hw⟩:∃w,(s.take r).drop i=w:=⟨_,rfl⟩
   have hrg:i<r:=by rw[<-hr];exact b0v hi (by simp only[a0X,g59,Bool.true_or])
   have hrle:r<=s.length:=by rw[<-hr];exact b0w hi1
   have hwl:w.length=r-i:=by rw[<-hw,List.length_drop,List.length_take];omega
   have hw0:w.getD 0 0=s.getD i 0:=by
    rw[<-hw,List.getD_eq_getElem?_getD,List.getElem?_drop,Nat.add_zero,List.getElem?_take_of_lt (by omega),<-List.getD_eq_getElem?_getD]
   have hR:b4E s i =(match ltB 24 w.length with|true=>b5U none 14 i|false=>b5U (some ⟨a9w w,w,i,r-i⟩) 0 0):=by
    unfold b4E;simp only[g17,g59,hr,hw]
   rw[hR];have h53:=c53 s i hi1 hs;rw[hr]at h53;refine eSG (oA 2 rfl ?_);refine M8 rfl rfl rfl rfl rfl (h53) rfl ?_;refine oB 1 rfl (eSG (oA 3 rfl ?_));refine o7 rfl rfl (a1o (a9r (by omega) (by omega)) (show a4g (some (.str ((s.take (r:Int).toNat).drop (i:Int).toNat)))=some (.str w)by rw[<-hw];rfl)) ?_;refine oB 1 rfl (F3 (eSG (oB 3 rfl ?_)));refine a0E rfl (fun g69=>?_) (fun g69=>?_)
   ·rw[show ltB 24 (w.length:Nat)=true from g69];refine eSG ?_;refine oD ?_;refine oA 1 rfl ?_;refine oD ?_;refine oB 2 rfl ?_;exact O5 ⟨_,rfl,rfl⟩
   ·rw[show ltB 24 (w.length:Nat)=false from g69];refine L9 (eSG (oB 1 rfl ?_));refine a2Q (f:=74) [73,74] (fun(x:Int) fr=>(11,.i x)::fr) (fun x=>x =(match leB 65 (w.getD 0 0).toNat&&leB (w.getD 0 0).toNat 90 with|true=>2|false=>1)) (by kernel_rfl) (by repeat(first|exact a3a rfl|exact a1N rfl|refine a1O (by kernel_rfl) ?_|refine a0Q ?_|refine a0R (by kernel_rfl) ?_|refine a1M (by kernel_rfl) ?_)) ?_ ?_
    ·refine eSG (oA 1 rfl ?_);refine M8 rfl rfl rfl rfl rfl (c54 ..) rfl ?_;refine H9 ?_;refine a0E rfl (fun g74=>?_) (fun g74=>?_)
     ·refine p9 (oB 1 rfl ?_);refine⟨(2:Int),?_,?_,rfl⟩;rotate_left 1
      ·(repeat(first|exact Off.refl|refine Off.right rfl ?_|refine Off.left rfl ?_|refine Off.over ?_|refine Off.a0Z rfl ?_))
      ·exact(cap1 (by rw[hw0];exact g74)).symm
     ·refine L9 ?_;refine⟨(1:Int),?_,?_,rfl⟩;rotate_left 1
      ·(repeat(first|exact Off.refl|refine Off.right rfl ?_|refine Off.left rfl ?_|refine Off.over ?_|refine Off.a0Z rfl ?_))
      ·exact(cap2 (by rw[hw0];exact g74)).symm
    ·intro x hx;show Ev _ _ _ _ _ ((11,V.i x)::_) _ _;refine F3 (eSG ?_);refine M8 rfl rfl rfl rfl rfl (c18 ..) rfl ?_;refine oA 1 rfl ?_;refine M8 rfl rfl rfl rfl rfl (c55 b4e w (by decide)) rfl ?_;refine oB 1 rfl ?_;refine a0E rfl (fun g78=>?_) (fun g78=>?_)
     ·have hk:a9w w=9:=by unfold a9w;rw[<-a9h w b4e 0,show leB 0 (b03 w b4e 0)=true from g78]
      rw[hk];refine p9 (oB 1 rfl (eSG (oA 5 rfl ?_)));refine o7 rfl rfl (subN (by omega) (by omega)) ?_;refine oD ?_;refine oD ?_;refine oB 2 rfl ?_;exact O5 ⟨_,rfl,rfl⟩
     ·have hk:a9w w=x:=by unfold a9w;rw[<-a9h w b4e 0,show leB 0 (b03 w b4e 0)=false from g78,hx];rfl
      rw[hk];refine L9 (eSG (oA 5 rfl ?_));refine o7 rfl rfl (subN (by omega) (by omega)) ?_;refine oD ?_;refine oD ?_;refine oB 2 rfl ?_;exact O5 ⟨_,rfl,rfl⟩
  ·simp only[Int.toNat_natCast]at g59;obtain⟨w,hw⟩:∃w,a2a s i 2=w:=⟨_,rfl⟩
   have hwl:=b67 2 hi1;rw[hw]at hwl;have hwe:=signK_eq hw hi;have h50:=c50 s i hi hs w hw;refine L9 (F3 (eSG (oA 2 rfl ?_)));refine M8 rfl rfl rfl rfl rfl (h50) rfl ?_;refine oB 1 rfl (eSG (oB 2 rfl ?_));refine a0E rfl (fun g91=>?_) (fun g91=>?_)
   ·have hne:w ≠ []:=by
     intro e;rw[e]at g91;simp[ltB]at g91
    have hR:b4E s i=b5U (some ⟨8,w,i,w.length⟩) 0 0:=by
     unfold b4E;simp only[g17,g59,hw]
    rw[hR];refine eSG (oA 4 rfl ?_);refine o7 rfl rfl (addN (by omega)) ?_;refine o7 rfl rfl (a1o (a9r (by omega) (by omega)) (show some (V.str ((s.take (i+w.length)).drop i))=some (.str w)by rw[<-hwe])) ?_;refine oA 2 rfl ?_;refine oD ?_;refine oD ?_;refine oB 2 rfl ?_;exact O5 ⟨_,rfl,rfl⟩
   ·have hne:w=[]:=by
     cases w with
     | nil=>rfl
     | cons a l=>simp[ltB]at g91
    have hR:b4E s i=b5U none 10 i:=by
     unfold b4E;simp only[g17,g59,hw,hne]
    rw[hR];refine L9 (eSG ?_);refine oD ?_;refine oA 1 rfl ?_;refine oD ?_;refine oB 2 rfl ?_;exact O5 ⟨_,rfl,rfl⟩
end Go.Proofs.YtmippldlhnajkaaGreatDoor.Sc
namespace Go.Proofs.YtmippldlhnajkaaGreatDoor.Sc
open Go Go.Vm
structure PS where
 j:Nat
 text:List UInt8
 w:Nat
def partV:PR->V | .err c a=>.tuple [.agg [.str [],.i 0,.bool false],.agg [.i c,.i (a:Int)]] | .fin t e=>.tuple [.agg [.str t,.i (e:Int),.bool false],.agg [.i 0,.i 0]] | .more t e=>.tuple [.agg [.str t,.i (e:Int),.bool true],.agg [.i 0,.i 0]]
theorem c29 (s:List UInt8)(q i ins:Nat)(hi:i<=s.length)(hs:s.length<=100000):E env (.call 73 [.str s,.i q,.i i,.i ins]) []=some (.ret (partV (part s q ins i [])) []):=by
 obtain⟨R,hR⟩:∃R,part s q ins i []=R:=⟨_,rfl⟩
 rw[hR];refine a1r rfl Tryz.func73 rfl rfl ?_;refine eSG (oB 2 rfl (eSG (oB 1 rfl (F3 ?_))));refine Y9 ?_;refine a6s rfl ?_;refine a9x (fun x:PS=>[(0,.str s),(1,.i (q:Nat)),(2,.i (x.j:Nat)),(3,.i (ins:Nat)),(8,.ptr 0 0),(9,.ptr 1 0),(10,.slice (.tag 2) x.text.length (a0O x.text))]) (fun x=>[(0,.row [.str [],.i 0,.bool false]),(1,.row [.i 0,.i 0]),(2,.tip x.w x.text.length)]) (fun x=>x.j<=s.length/\x.text.length<=x.j/\(x.w=0∨x.w=1)/\part s q ins x.j x.text=R) (fun x=>s.length-x.j) ⟨i,[],0⟩ ⟨hi,Nat.zero_le _,.inl rfl,hR⟩ ?_;intro⟨j,text,w⟩ ⟨hj,htj,hw,hR⟩ ih;simp only at hj htj hw hR ih;show Ev _ _ _ _ _ [(0,.str s),(1,.i (q:Nat)),(2,.i (j:Nat)),(3,.i (ins:Nat)),(8,.ptr 0 0),(9,.ptr 1 0),(10,.slice (.tag 2) text.length (a0O text))] [(0,.row [.str [],.i 0,.bool false]),(1,.row [.i 0,.i 0]),(2,.tip w text.length)] _;refine F3 ?_;refine a2Q (f:=73) [13,14,15,16,17,18,19,20,21] (fun(x:Bool) fr=>(22,.bool x)::fr) (fun x=>x =(decide (j<s.length)&&decide (32 <=(s.getD j 0).toNat))) (by kernel_rfl) (by repeat(first|exact a3a rfl|exact a1N rfl|refine a1O (by kernel_rfl) ?_|refine a0Q ?_|refine a0R (by kernel_rfl) ?_|refine a1M (by kernel_rfl) ?_)) ?_ ?_
 ·refine p9 (oA 5 rfl ?_);refine N9 rfl rfl rfl (fun g17=>?_) (fun g17=>?_)
  ·try simp only[eqB,ltB,leB,eqS,decide_eq_true_eq,decide_eq_false_iff_not,beq_iff_eq,beq_eq_false_iff_ne,ne_eq,Int.toNat_natCast,Bool.not_eq_true',Bool.not_eq_false']at g17
   refine oA 2 rfl ?_;refine o7 rfl rfl (a1o (a0r (by omega)) rfl) ?_;refine oB 2 rfl ?_;refine⟨?_,?_,?_,rfl⟩;rotate_left 2
   ·(repeat(first|exact Off.refl|refine Off.right rfl ?_|refine Off.left rfl ?_|refine Off.over ?_|refine Off.a0Z rfl ?_))
   ·rw[decide_eq_true (show j<s.length by omega),Bool.true_and];simp only[leB,Int.toNat_natCast];rw[Bool.eq_iff_iff];simp;omega
  ·try simp only[eqB,ltB,leB,eqS,decide_eq_true_eq,decide_eq_false_iff_not,beq_iff_eq,beq_eq_false_iff_ne,ne_eq,Int.toNat_natCast,Bool.not_eq_true',Bool.not_eq_false']at g17
   refine oB 5 rfl ?_;refine⟨?_,?_,?_,rfl⟩;rotate_left 2
   ·(repeat(first|exact Off.refl|refine Off.right rfl ?_|refine Off.left rfl ?_|refine Off.over ?_|refine Off.a0Z rfl ?_))
   ·rw[decide_eq_false (by omega)];rfl
 ·intro x hx;show Ev _ _ _ _ _ ((22,V.bool x)::_) _ _;refine a0E rfl (fun g22=>?_) (fun g22=>?_)
  ·rw[g22]at hx;have hx2:=hx.symm;simp only[Bool.and_eq_true,decide_eq_true_eq]at hx2;obtain⟨h1,h2⟩:=hx2;refine L9 ?_;refine Y9 ?_;refine eSG (oA 2 rfl ?_);refine o7 rfl rfl (a1o (a0r (by omega)) rfl) ?_;refine oB 1 rfl (F3 (eSG (oB 2 rfl ?_)));refine a0E rfl (fun g27=>?_) (fun g27=>?_)
   ·try simp only[eqB,ltB,leB,eqS,decide_eq_true_eq,decide_eq_false_iff_not,beq_iff_eq,beq_eq_false_iff_ne,ne_eq,Int.toNat_natCast,Bool.not_eq_true',Bool.not_eq_false']at g27
    refine eSG (oA 1 rfl ?_);refine b8c rfl rfl rfl (c7H text) ?_;refine oA 1 rfl ?_;refine o7 rfl rfl (add1 (by omega)) ?_;refine oD ?_;refine oD ?_;refine oB 2 rfl ?_;rw[<-hR,part_fin h1 h2 (by omega)];exact O5 ⟨_,rfl,rfl⟩
   ·try simp only[eqB,ltB,leB,eqS,decide_eq_true_eq,decide_eq_false_iff_not,beq_iff_eq,beq_eq_false_iff_ne,ne_eq,Int.toNat_natCast,Bool.not_eq_true',Bool.not_eq_false']at g27
    refine L9 (F3 (eSG (oB 2 rfl ?_)));refine a0E rfl (fun g35=>?_) (fun g35=>?_)
    ·try simp only[eqB,ltB,leB,eqS,decide_eq_true_eq,decide_eq_false_iff_not,beq_iff_eq,beq_eq_false_iff_ne,ne_eq,Int.toNat_natCast,Bool.not_eq_true',Bool.not_eq_false']at g35
     refine eSG (oA 3 rfl ?_);refine a5M rfl rfl rfl rfl rfl rfl rfl rfl rfl rfl rfl (b2O (a2r rfl) rfl) rfl rfl hw rfl (b1P text).symm (by show(text.length+1)*2<=_;omega) (b5N text (s.getD j 0)) (b0a text (s.getD j 0)) rfl ?_;refine oB 1 rfl (eSG (oA 1 rfl ?_));refine o7 rfl rfl (add1 (by omega)) ?_;refine oB 1 rfl ?_;refine a4k ?_;exact⟨_,_,rfl,ih ⟨j+1,text++[s.getD j 0],1⟩ (by show s.length-(j+1)<s.length-j;omega) ⟨by show j+1<=s.length;omega,by show List.length (text++[s.getD j 0])<=j+1;simp only[List.length_append,List.length_cons,List.length_nil];omega,.inr rfl,by show part s q ins (j+1) (text++[s.getD j 0])=R;rw[<-hR,c9n h1 h2 (by omega) (by omega)]⟩⟩
    ·try simp only[eqB,ltB,leB,eqS,decide_eq_true_eq,decide_eq_false_iff_not,beq_iff_eq,beq_eq_false_iff_ne,ne_eq,Int.toNat_natCast,Bool.not_eq_true',Bool.not_eq_false']at g35
     refine L9 (eSG (oB 1 rfl ?_));refine a2Q (f:=73) [42,43,44,45,46,47,48,49,50] (fun(x:Nat) fr=>(12,.int .u8 (x:Nat))::fr) (fun x=>x =(s.getD (j+1) 0).toNat/\(x≠0->j+1<s.length)) (by kernel_rfl) (by repeat(first|exact a3a rfl|exact a1N rfl|refine a1O (by kernel_rfl) ?_|refine a0Q ?_|refine a0R (by kernel_rfl) ?_|refine a1M (by kernel_rfl) ?_)) ?_ ?_
     ·refine eSG (oA 1 rfl ?_);refine o7 rfl rfl (add1 (by omega)) ?_;refine oB 3 rfl ?_;refine a0E rfl (fun g46=>?_) (fun g46=>?_)
      ·try simp only[eqB,ltB,leB,eqS,decide_eq_true_eq,decide_eq_false_iff_not,beq_iff_eq,beq_eq_false_iff_ne,ne_eq,Int.toNat_natCast,Bool.not_eq_true',Bool.not_eq_false']at g46
       refine p9 (oA 2 rfl ?_);refine o7 rfl rfl (add1 (by omega)) ?_;refine o7 rfl rfl (a1o (a0r (by omega)) rfl) ?_;refine oB 1 rfl ?_;refine⟨((s.getD (j+1) 0).toNat),?_,?_,rfl⟩;rotate_left 1
       ·(repeat(first|exact Off.refl|refine Off.right rfl ?_|refine Off.left rfl ?_|refine Off.over ?_|refine Off.a0Z rfl ?_))
       ·exact⟨rfl,fun _=>by omega⟩
      ·try simp only[eqB,ltB,leB,eqS,decide_eq_true_eq,decide_eq_false_iff_not,beq_iff_eq,beq_eq_false_iff_ne,ne_eq,Int.toNat_natCast,Bool.not_eq_true',Bool.not_eq_false']at g46
       refine L9 ?_;refine⟨0,?_,?_,rfl⟩;rotate_left 1
       ·(repeat(first|exact Off.refl|refine Off.right rfl ?_|refine Off.left rfl ?_|refine Off.over ?_|refine Off.a0Z rfl ?_))
       ·exact⟨by rw[b5L (show s.length<=j+1 by omega)];rfl,fun h=>absurd rfl h⟩
     ·intro x ⟨hx0,hxl⟩;show Ev _ _ _ _ _ ((12,V.int .u8 (x:Nat))::_) _ _;refine F3 (eSG (oB 1 rfl ?_));refine Y9 ?_;refine eSG (oB 2 rfl ?_);refine a0E rfl (fun g55=>?_) (fun g55=>?_)
      ·try simp only[eqB,ltB,leB,eqS,decide_eq_true_eq,decide_eq_false_iff_not,beq_iff_eq,beq_eq_false_iff_ne,ne_eq,Int.toNat_natCast,Bool.not_eq_true',Bool.not_eq_false']at g55
       refine p9 (oA 2 rfl ?_);refine a5M rfl rfl rfl rfl rfl rfl rfl rfl rfl rfl rfl (b2O (a2r rfl) rfl) rfl rfl hw rfl (b1P text).symm (by show(text.length+1)*2<=_;omega) (b5N text (10)) (b0a text (10)) rfl ?_;refine oB 1 rfl (p9 (oA 1 rfl ?_));refine o7 rfl rfl (add2 (by omega)) ?_;refine oB 1 rfl ?_;exact⟨_,_,rfl,ih ⟨j+2,text++[10],1⟩ (by show s.length-(j+2)<s.length-j;omega) ⟨by show j+2<=s.length;omega,by show List.length (text++[10])<=j+2;simp only[List.length_append,List.length_cons,List.length_nil];omega,.inr rfl,by show part s q ins (j+2) (text++[10])=R;rw[<-hR,part_n h1 h2 (by omega) (by omega)]⟩⟩
      ·try simp only[eqB,ltB,leB,eqS,decide_eq_true_eq,decide_eq_false_iff_not,beq_iff_eq,beq_eq_false_iff_ne,ne_eq,Int.toNat_natCast,Bool.not_eq_true',Bool.not_eq_false']at g55
       refine eSG (oB 2 rfl ?_);refine a0E rfl (fun g60=>?_) (fun g60=>?_)
       ·try simp only[eqB,ltB,leB,eqS,decide_eq_true_eq,decide_eq_false_iff_not,beq_iff_eq,beq_eq_false_iff_ne,ne_eq,Int.toNat_natCast,Bool.not_eq_true',Bool.not_eq_false']at g60
        refine p9 (oA 2 rfl ?_);refine a5M rfl rfl rfl rfl rfl rfl rfl rfl rfl rfl rfl (b2O (a2r rfl) rfl) rfl rfl hw rfl (b1P text).symm (by show(text.length+1)*2<=_;omega) (b5N text (9)) (b0a text (9)) rfl ?_;refine oB 1 rfl (p9 (oA 1 rfl ?_));refine o7 rfl rfl (add2 (by omega)) ?_;refine oB 1 rfl ?_;exact⟨_,_,rfl,ih ⟨j+2,text++[9],1⟩ (by show s.length-(j+2)<s.length-j;omega) ⟨by show j+2<=s.length;omega,by show List.length (text++[9])<=j+2;simp only[List.length_append,List.length_cons,List.length_nil];omega,.inr rfl,by show part s q ins (j+2) (text++[9])=R;rw[<-hR,part_t h1 h2 (by omega) (by omega)]⟩⟩
       ·try simp only[eqB,ltB,leB,eqS,decide_eq_true_eq,decide_eq_false_iff_not,beq_iff_eq,beq_eq_false_iff_ne,ne_eq,Int.toNat_natCast,Bool.not_eq_true',Bool.not_eq_false']at g60
        refine a2Q (f:=73) [66,67] (fun(x:Bool) fr=>(65,.bool x)::fr) (fun y=>y =(decide (x=92)||decide (x=34))) (by kernel_rfl) (by repeat(first|exact a3a rfl|exact a1N rfl|refine a1O (by kernel_rfl) ?_|refine a0Q ?_|refine a0R (by kernel_rfl) ?_|refine a1M (by kernel_rfl) ?_)) ?_ ?_
        ·refine eSG (oB 2 rfl ?_);refine a0E rfl (fun g65=>?_) (fun g65=>?_)
         ·refine L9 ?_;refine⟨?_,?_,?_,rfl⟩;rotate_left 2
          ·(repeat(first|exact Off.refl|refine Off.right rfl ?_|refine Off.left rfl ?_|refine Off.over ?_|refine Off.a0Z rfl ?_))
          ·rw[decide_eq_true (show x=92 by simp only[eqB,beq_iff_eq]at g65;omega)];first|rfl|exact g65
         ·refine p9 (oB 2 rfl ?_);refine⟨?_,?_,?_,rfl⟩;rotate_left 2
          ·(repeat(first|exact Off.refl|refine Off.right rfl ?_|refine Off.left rfl ?_|refine Off.over ?_|refine Off.a0Z rfl ?_))
          ·rw[decide_eq_false (show ¬x=92 by simp only[eqB,beq_eq_false_iff_ne,ne_eq]at g65;omega),Bool.false_or];simp only[eqB];rw[Bool.eq_iff_iff];simp;omega
        ·intro y hy;show Ev _ _ _ _ _ ((65,V.bool y)::_) _ _;refine a0E rfl (fun g65=>?_) (fun g65=>?_)
         ·refine p9 (oA 3 rfl ?_);rw[g65]at hy;have hy2:=hy.symm;simp only[Bool.or_eq_true,decide_eq_true_eq]at hy2;subst hx0;refine a5M rfl rfl rfl rfl rfl rfl rfl rfl rfl rfl rfl (b2O (a2r rfl) rfl) rfl rfl hw rfl (b1P text).symm (by show(text.length+1)*2<=_;omega) (b5N text (s.getD (j+1) 0)) (b0a text (s.getD (j+1) 0)) rfl ?_;refine oB 1 rfl (p9 (oA 1 rfl ?_));refine o7 rfl rfl (add2 (by omega)) ?_;refine oB 1 rfl ?_;exact⟨_,_,rfl,ih ⟨j+2,text++[s.getD (j+1) 0],1⟩ (by show s.length-(j+2)<s.length-j;omega) ⟨by show j+2<=s.length;omega,by show List.length (text++[s.getD (j+1) 0])<=j+2;simp only[List.length_append,List.length_cons,List.length_nil];omega,.inr rfl,by show part s q ins (j+2) (text++[s.getD (j+1) 0])=R;rw[<-hR,c9q h1 h2 (by omega) (by omega)]⟩⟩
         ·refine eSG (oB 2 rfl ?_);refine a0E rfl (fun g72=>?_) (fun g72=>?_)
          ·rw[g65]at hy;have hy2:=hy.symm;simp only[Bool.or_eq_false_iff,decide_eq_false_iff_not]at hy2;try simp only[eqB,ltB,leB,eqS,decide_eq_true_eq,decide_eq_false_iff_not,beq_iff_eq,beq_eq_false_iff_ne,ne_eq,Int.toNat_natCast,Bool.not_eq_true',Bool.not_eq_false']at g72
           refine F3 (eSG (oB 2 rfl ?_));refine a0E rfl (fun g75=>?_) (fun g75=>?_)
           ·try simp only[eqB,ltB,leB,eqS,decide_eq_true_eq,decide_eq_false_iff_not,beq_iff_eq,beq_eq_false_iff_ne,ne_eq,Int.toNat_natCast,Bool.not_eq_true',Bool.not_eq_false']at g75
            refine eSG ?_;refine oD ?_;refine oA 1 rfl ?_;refine oD ?_;refine oB 2 rfl ?_;rw[<-hR,c9o h1 h2 (by omega) (by omega) (by omega)];exact O5 ⟨_,rfl,rfl⟩
           ·try simp only[eqB,ltB,leB,eqS,decide_eq_true_eq,decide_eq_false_iff_not,beq_iff_eq,beq_eq_false_iff_ne,ne_eq,Int.toNat_natCast,Bool.not_eq_true',Bool.not_eq_false']at g75
            refine L9 (eSG (oA 1 rfl ?_));refine b8c rfl rfl rfl (c7H text) ?_;refine oA 1 rfl ?_;refine o7 rfl rfl (add2 (by omega)) ?_;refine oD ?_;refine oD ?_;refine oB 2 rfl ?_;rw[<-hR,c9p h1 h2 (by omega) (by omega) (by omega)];exact O5 ⟨_,rfl,rfl⟩
          ·rw[g65]at hy;have hy2:=hy.symm;simp only[Bool.or_eq_false_iff,decide_eq_false_iff_not]at hy2;try simp only[eqB,ltB,leB,eqS,decide_eq_true_eq,decide_eq_false_iff_not,beq_iff_eq,beq_eq_false_iff_ne,ne_eq,Int.toNat_natCast,Bool.not_eq_true',Bool.not_eq_false']at g72
           refine eSG ?_;refine oD ?_;refine oA 1 rfl ?_;refine oD ?_;refine oB 2 rfl ?_;rw[<-hR,part_bad h1 h2 (by omega) (by omega) (by omega) (by omega) (by omega) (by omega)];exact O5 ⟨_,rfl,rfl⟩
  ·have hP:part s q ins j text=.err 11 q:=by
    rw[g22]at hx;rcases Nat.lt_or_ge j s.length with h|h
    ·rw[decide_eq_true h,Bool.true_and]at hx;have hx2:=hx.symm;simp only[decide_eq_false_iff_not]at hx2;exact part_low (by omega)
    ·exact part_end h
   rw[<-hR,hP];refine a4k ?_;refine eSG ?_;refine oD ?_;refine oA 1 rfl ?_;refine oD ?_;refine oB 2 rfl ?_;exact O5 ⟨_,rfl,rfl⟩
end Go.Proofs.YtmippldlhnajkaaGreatDoor.Sc
