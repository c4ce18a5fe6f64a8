/- Texts of ParseValid, joined. -/
import Derived.Test.YtimgnjbjbdgmaaaGreatDoorParseValidJ5
set_option maxRecDepth 100000
set_option maxHeartbeats 20000000
set_option linter.all false
namespace Go.Proofs.YtimgnjbjbdgmaaaGreatDoor.Sc
open Go Go.Vm
theorem b5o {s:List UInt8}{i:Nat}(h:s.length<=i):s.getD i 0=0:=by rw[List.getD_eq_getElem?_getD,List.getElem?_eq_none h];rfl
theorem c27 (s:List UInt8)(i:Nat)(hi:i<=s.length)(hs:s.length<4611686018427387904):E env (.call 64 [.str s,.i i]) []=some (.ret (.i (a0K s i)) []):=by
 obtain⟨r,hr⟩:∃r,a0K s i=r:=⟨_,rfl⟩
 rw[hr];refine U3 rfl Tryz.func64 rfl rfl ?_;refine eSG (oB 1 rfl (E8 ?_));refine M8 ?_;refine a4M rfl ?_;refine a6N (fun j=>[(0,.str s),(1,.i (j:Nat))]) (fun _=>[]) (fun j=>j<=s.length/\a0K s j=r) (fun j=>s.length-j) i ⟨hi,hr⟩ ?_;intro i ⟨hi,hr⟩ ih;refine E8 (eSG (oB 4 rfl ?_));refine O6 rfl (fun g8=>?_) (fun g8=>?_)
 ·replace g8:i<s.length:=by simpa [ltN]using g8
  refine H6 ?_;refine M8 ?_;refine E8 (eSG (oA 2 rfl ?_));refine o7 rfl rfl (a0M (W9 zOm) rfl) ?_;refine L9 rfl rfl rfl rfl rfl (c47 ..) rfl ?_;refine I4 ?_;refine O6 rfl (fun g12=>?_) (fun g12=>?_)
  ·simp only[Int.toNat_natCast]at g12;refine eSG (oA 1 rfl ?_);refine o7 rfl rfl (add1 zOm) ?_;refine oB 1 rfl ?_;refine a2k ?_;exact⟨_,_,rfl,ih (i+1) zOm ⟨zOm,by rw[<-b7c g8 g12];exact hr⟩⟩
  simp only[Int.toNat_natCast]at g12;refine H6 (E8 ?_);refine a3V (f:=64) [15,16,17,18,19,20,21,22,23,24,25,26,27,28,29,30,31] (fun(x:Bool) fr=>(32,.bool x)::fr) (fun x=>x = !(decide ((s.getD i 0).toNat=47)&&decide ((s.getD (i+1) 0).toNat=47))) zKr rSp ?_ ?_
  ·refine A7 (oA 2 rfl ?_);refine o7 rfl rfl (a0M (W9 zOm) rfl) ?_;refine oA 2 rfl ?_;refine J3 rfl rfl rfl (fun g19=>?_) (fun g19=>?_)
   ·try simp only[zB]at g19
    refine oB 13 rfl ?_;refine⟨?_,?_,?_,rfl⟩;rotate_left 2
    ·exact oFA
    rw[decide_eq_false zOm];rfl
   try simp only[zB]at g19
   refine oA 1 rfl ?_;refine o7 rfl rfl (add1 zOm) ?_;refine oA 5 rfl ?_;refine J3 rfl rfl rfl (fun g26=>?_) (fun g26=>?_)
   ·try simp only[zB]at g26
    refine oB 6 rfl ?_;refine⟨?_,?_,?_,rfl⟩;rotate_left 2
    ·exact oFA
    rw[b5o (show s.length<=i+1 by omega)];simp
   try simp only[zB]at g26
   refine oA 2 rfl ?_;refine o7 rfl rfl (add1 zOm) ?_;refine o7 rfl rfl (a0M (W9 zOm) rfl) ?_;refine oB 2 rfl ?_;refine⟨?_,?_,?_,rfl⟩;rotate_left 2
   ·exact oFA
   rw[decide_eq_true (show(s.getD i 0).toNat=47 by omega),Bool.true_and];simp only[eqB,Int.toNat_natCast];congr 1;rw[Bool.eq_iff_iff];simp;omega
  intro x hx;show Ev _ _ _ _ _ ((32,V.bool x)::_) _ _;refine O6 rfl (fun g32=>?_) (fun g32=>?_)
  ·obtain rfl:i=r:=by
    rw[<-hr];refine(b9u g8 g12 ?_).symm;rw[g32]at hx;have:=hx.symm;simp only[Bool.not_eq_true',Bool.and_eq_false_iff,decide_eq_false_iff_not]at this;exact this
   refine eSG (oB 2 rfl ?_);exact F7 ⟨_,rfl,rfl⟩
  replace g32:(s.getD i 0).toNat=47/\(s.getD (i+1) 0).toNat=47:=by
   rw[g32]at hx;have:=hx.symm;simp only[Bool.not_eq_false',Bool.and_eq_true,decide_eq_true_eq]at this;exact this
  obtain⟨R,hR⟩:∃R,Z7 nlB s i=R:=⟨_,rfl⟩
  have hRl:R<=s.length:=by rw[<-hR];exact a7m hi
  have hRi:i<R:=by rw[<-hR];exact a8B g8 (by simp only[nlB,decide_eq_true_eq];omega)
  refine H6 ?_;refine M8 ?_;refine a4M rfl ?_;refine a6N (fun j=>[(0,.str s),(1,.i (j:Nat))]) (fun _=>[]) (fun j=>j<=s.length/\Z7 nlB s j=R) (fun j=>s.length-j) i ⟨hi,hR⟩ ?_;intro k ⟨hk,hkR⟩ ih1;refine E8 ?_;refine a3V (f:=64) [34,35,36,37,38,39,40,41,42] (fun(x:Bool) fr=>(43,.bool x)::fr) (fun x=>x =(decide (k<s.length)&&nlB (s.getD k 0))) zKr rSp ?_ ?_
  ·refine A7 (oA 5 rfl ?_);refine J3 rfl rfl rfl (fun g38=>?_) (fun g38=>?_)
   ·try simp only[zB]at g38
    refine oA 2 rfl ?_;refine o7 rfl rfl (a0M (W9 zOm) rfl) ?_;refine oB 2 rfl ?_;refine⟨?_,?_,?_,rfl⟩;rotate_left 2
    ·exact oFA
    rw[decide_eq_true (show k<s.length by omega),Bool.true_and];simp only[nlB,eqB,Int.toNat_natCast];rw[Bool.eq_iff_iff];simp;omega
   try simp only[zB]at g38
   refine oB 5 rfl ?_;refine⟨?_,?_,?_,rfl⟩;rotate_left 2
   ·exact oFA
   rw[decide_eq_false zOm];rfl
  intro x hx;show Ev _ _ _ _ _ ((43,V.bool x)::_) _ _;refine O6 rfl (fun g43=>?_) (fun g43=>?_)
  ·replace g43:k<s.length/\nlB (s.getD k 0)=true:=by
    rw[g43]at hx;have:=hx.symm;simp only[Bool.and_eq_true,decide_eq_true_eq]at this;exact this
   refine H6 ?_;refine M8 ?_;refine A7 (oA 1 rfl ?_);refine o7 rfl rfl (add1 zOm) ?_;refine oB 1 rfl ?_;exact⟨_,_,rfl,ih1 (k+1) zOm ⟨zOm,by rw[<-b1C g43.1 g43.2];exact hkR⟩⟩
  obtain rfl:k=R:=by
   rw[<-hkR];rw[g43]at hx;rcases Nat.lt_or_ge k s.length with h|h
   ·rw[decide_eq_true h,Bool.true_and]at hx;exact(b7N h hx.symm).symm
   exact(b5Q h).symm
  refine a2k ?_;exact⟨_,_,rfl,ih k zOm ⟨hRl,by rw[<-hR,<-c0S g8 g32.1 g32.2];exact hr⟩⟩
 replace g8:s.length<=i:=by simpa [ltN]using g8
 obtain rfl:i=r:=by rw[<-hr,c0T g8]
 refine a2k ?_;refine eSG (oB 2 rfl ?_);exact F7 ⟨_,rfl,rfl⟩
theorem c51 (s:List UInt8)(i:Nat)(hi:i<=s.length)(hs:s.length<4611686018427387904):E env (.call 111 [.str s,.i i]) []=some (.ret (.i (Z7 O5 s i)) []):=by
 obtain⟨r,hr⟩:∃r,Z7 O5 s i=r:=⟨_,rfl⟩
 rw[hr];refine U3 rfl Tryz.func111 rfl rfl ?_;refine eSG (oB 1 rfl (E8 ?_));refine M8 ?_;refine a4M rfl ?_;refine a6N (fun j=>[(0,.str s),(1,.i (j:Nat))]) (fun _=>[]) (fun j=>j<=s.length/\Z7 O5 s j=r) (fun j=>s.length-j) i ⟨hi,hr⟩ ?_;intro i ⟨hi,hr⟩ ih;refine E8 ?_;refine a3V (f:=111) [5,6,7,8,9,10,11,12,13] (fun(x:Bool) fr=>(14,.bool x)::fr) (fun x=>x =(decide (i<s.length)&&O5 (s.getD i 0))) zKr rSp ?_ ?_
 ·refine A7 (oA 5 rfl ?_);refine J3 rfl rfl rfl (fun g9=>?_) (fun g9=>?_)
  ·try simp only[zB]at g9
   refine oA 2 rfl ?_;refine o7 rfl rfl (a0M (W9 zOm) rfl) ?_;refine L9 rfl rfl rfl rfl rfl (c48 ..) rfl ?_;refine oB 1 rfl ?_;refine⟨?_,?_,?_,rfl⟩;rotate_left 2
   ·exact oFA
   rw[decide_eq_true (show i<s.length by omega),Bool.true_and];simp only[Int.toNat_natCast]
  try simp only[zB]at g9
  refine oB 5 rfl ?_;refine⟨?_,?_,?_,rfl⟩;rotate_left 2
  ·exact oFA
  rw[decide_eq_false zOm];rfl
 intro x hx;show Ev _ _ _ _ _ ((14,V.bool x)::_) _ _;refine O6 rfl (fun g14=>?_) (fun g14=>?_)
 ·replace g14:i<s.length/\O5 (s.getD i 0)=true:=by
   rw[g14]at hx;have:=hx.symm;simp only[Bool.and_eq_true,decide_eq_true_eq]at this;exact this
  refine H6 ?_;refine M8 ?_;refine A7 (oA 1 rfl ?_);refine o7 rfl rfl (add1 zOm) ?_;refine oB 1 rfl ?_;exact⟨_,_,rfl,ih (i+1) zOm ⟨zOm,by rw[<-b1C g14.1 g14.2];exact hr⟩⟩
 obtain rfl:i=r:=by
  rw[<-hr];rw[g14]at hx;rcases Nat.lt_or_ge i s.length with h|h
  ·rw[decide_eq_true h,Bool.true_and]at hx;exact(b7N h hx.symm).symm
  exact(b5Q h).symm
 refine a2k ?_;refine eSG (oB 2 rfl ?_);exact F7 ⟨_,rfl,rfl⟩
theorem c53 (s:List UInt8)(i:Nat)(hi:i<=s.length)(hs:s.length<4611686018427387904):E env (.call 113 [.str s,.i i]) []=some (.ret (.i (Z7 a0Z s i)) []):=by
 obtain⟨r,hr⟩:∃r,Z7 a0Z s i=r:=⟨_,rfl⟩
 rw[hr];refine U3 rfl Tryz.func113 rfl rfl ?_;refine eSG (oB 1 rfl (E8 ?_));refine M8 ?_;refine a4M rfl ?_;refine a6N (fun j=>[(0,.str s),(1,.i (j:Nat))]) (fun _=>[]) (fun j=>j<=s.length/\Z7 a0Z s j=r) (fun j=>s.length-j) i ⟨hi,hr⟩ ?_;intro i ⟨hi,hr⟩ ih;refine E8 ?_;refine a3V (f:=113) [5,6,7,8,9,10,11,12,13,14,15,16,17,18,19] (fun(x:Bool) fr=>(20,.bool x)::fr) (fun x=>x =(decide (i<s.length)&&a0Z (s.getD i 0))) zKr rSp ?_ ?_
 ·refine A7 (oA 5 rfl ?_);refine J3 rfl rfl rfl (fun g9=>?_) (fun g9=>?_)
  ·try simp only[zB]at g9
   refine oA 2 rfl ?_;refine o7 rfl rfl (a0M (W9 zOm) rfl) ?_;refine L9 rfl rfl rfl rfl rfl (c49 ..) rfl ?_;refine oA 1 rfl ?_;refine J3 rfl rfl rfl (fun g14=>?_) (fun g14=>?_)
   ·try simp only[zB]at g14
    refine oB 6 rfl ?_;refine⟨?_,?_,?_,rfl⟩;rotate_left 2
    ·exact oFA
    rw[decide_eq_true (show i<s.length by omega),Bool.true_and];simp only[Int.toNat_natCast]at g14 ⊢;simp only[a0Z,g14,Bool.true_or]
   try simp only[zB]at g14
   refine oA 2 rfl ?_;refine o7 rfl rfl (a0M (W9 zOm) rfl) ?_;refine L9 rfl rfl rfl rfl rfl (c48 ..) rfl ?_;refine oB 2 rfl ?_;refine⟨?_,?_,?_,rfl⟩;rotate_left 2
   ·exact oFA
   rw[decide_eq_true (show i<s.length by omega),Bool.true_and];simp only[Int.toNat_natCast]at g14 ⊢;simp only[a0Z,g14,Bool.false_or]
  try simp only[zB]at g9
  refine oB 11 rfl ?_;refine⟨?_,?_,?_,rfl⟩;rotate_left 2
  ·exact oFA
  rw[decide_eq_false zOm];rfl
 intro x hx;show Ev _ _ _ _ _ ((20,V.bool x)::_) _ _;refine O6 rfl (fun g20=>?_) (fun g20=>?_)
 ·replace g20:i<s.length/\a0Z (s.getD i 0)=true:=by
   rw[g20]at hx;have:=hx.symm;simp only[Bool.and_eq_true,decide_eq_true_eq]at this;exact this
  refine H6 ?_;refine M8 ?_;refine A7 (oA 1 rfl ?_);refine o7 rfl rfl (add1 zOm) ?_;refine oB 1 rfl ?_;exact⟨_,_,rfl,ih (i+1) zOm ⟨zOm,by rw[<-b1C g20.1 g20.2];exact hr⟩⟩
 obtain rfl:i=r:=by
  rw[<-hr];rw[g20]at hx;rcases Nat.lt_or_ge i s.length with h|h
  ·rw[decide_eq_true h,Bool.true_and]at hx;exact(b7N h hx.symm).symm
  exact(b5Q h).symm
 refine a2k ?_;refine eSG (oB 2 rfl ?_);exact F7 ⟨_,rfl,rfl⟩
theorem c52 (w:List UInt8)(b:Bool)(hb:(ltB 19 w.length ||(eqB w.length 19 && !(ltS w a2N||eqS w a2N)))=b):E env (.call 112 [.str w]) []=some (.ret (.bool b) []):=by
 refine U3 rfl Tryz.func112 rfl rfl ?_;refine eSG (oB 1 rfl (eSG (oB 1 rfl (eSG (oA 6 rfl ?_)))));refine J3 rfl rfl rfl (fun g9=>?_) (fun g9=>?_)
 ·refine oB 12 rfl ?_;obtain rfl:b=true:=by rw[<-hb,show ltB 19 (w.length:Nat)=true from g9];rfl
  exact F7 ⟨_,rfl,rfl⟩
 refine oA 6 rfl ?_;refine J3 rfl rfl rfl (fun g15=>?_) (fun g15=>?_)
 ·refine oB 6 rfl ?_;subst hb;rw[show ltB 19 (w.length:Nat)=false from g9,show eqB (w.length:Nat) 19=true from g15];exact F7 ⟨_,rfl,rfl⟩
 refine oB 6 rfl ?_;subst hb;rw[show ltB 19 (w.length:Nat)=false from g9,show eqB (w.length:Nat) 19=false from g15];exact F7 ⟨_,rfl,rfl⟩
variable {l:List (List UInt8)} {i:Nat}
def b1c (x:List UInt8):List (List UInt8)->Nat->Int
 | [],_=>-1
 | a::r,k=>match decide (a=x)with|true=>(k:Int)|false=>b1c x r (k+1)
theorem a9R (x:List UInt8):∀(l:List (List UInt8)) (k:Nat),leB 0 (b1c x l k)=b4M l x
 | [],k=>by simp[b1c,leB,b4M]
 | a::r,k=>by
  have ih:=a9R x r (k+1);simp only[b4M,List.any_cons]at ih ⊢;simp only[b1c];cases h:decide (a=x)with
  | true=>simp[leB]
  | false=>simp only[ih];simp
theorem ldc9 {H:Hp}(h:i<l.length):a6s env.T 9 (.cptr ((l.map V.str).drop ((i:Int).toNat*1))) H=some (.str (l.getD i [])):=by
 show((l.map V.str).drop ((i:Int).toNat*1)).head? = _;simp[h]
theorem b8j {x:List UInt8}(h:i<l.length):b1c x (l.drop i) i =(match decide (l.getD i []=x)with|true=>(i:Int)|false=>b1c x (l.drop (i+1)) (i+1)):=by
 rw[List.drop_eq_getElem_cons h];simp only[b1c];simp[h]
theorem c55 (l:List (List UInt8))(x:List UInt8)(hl:l.length<1000000):E env (.call 115 [.slice .sealed l.length (l.map V.str),.str x]) []=some (.ret (.i (b1c x l 0)) []):=by
 obtain⟨r,hr⟩:∃r,b1c x (l.drop 0) 0=r:=⟨_,rfl⟩
 rw[List.drop_zero]at hr;rw[hr];have hr0:b1c x (l.drop 0) 0=r:=hr;refine U3 rfl Tryz.func115 rfl rfl ?_;refine eSG (oB 1 rfl (E8 (eSG (oB 1 rfl ?_))));refine M8 ?_;refine a4M rfl ?_;refine a6N (fun j=>[(0,.slice .sealed l.length (l.map V.str)),(1,.str x),(5,.i (j:Nat))]) (fun _=>[]) (fun j=>j<=l.length/\b1c x (l.drop j) j=r) (fun j=>l.length-j) 0 ⟨Nat.zero_le _,hr0⟩ ?_;intro i ⟨hi,hr⟩ ih;refine E8 (eSG (oB 4 rfl ?_));refine O6 rfl (fun g9=>?_) (fun g9=>?_)
 ·replace g9:i<l.length:=by simpa [ltN]using g9
  refine H6 (E8 ?_);refine M8 ?_;refine eSG (oA 2 rfl ?_);refine o7 rfl rfl (a0M (W9 zOm) rfl) ?_;refine a0P rfl rfl rfl (ldc9 g9) ?_;refine oB 2 rfl ?_;refine O6 rfl (fun g17=>?_) (fun g17=>?_)
  ·obtain rfl:r =(i:Int):=by
    simp only[eqS,beq_iff_eq]at g17;rw[<-hr,b8j g9,decide_eq_true g17]
   refine eSG (oB 2 rfl ?_);exact F7 ⟨_,rfl,rfl⟩
  simp only[eqS,beq_eq_false_iff_ne,ne_eq]at g17;refine H6 (A7 (oA 1 rfl ?_));refine o7 rfl rfl (add1 zOm) ?_;refine oB 1 rfl ?_;exact⟨_,_,rfl,ih (i+1) zOm ⟨zOm,by rw[<-hr,b8j g9,decide_eq_false g17]⟩⟩
 replace g9:l.length<=i:=by simpa [ltN]using g9
 obtain rfl:r = -1:=by rw[<-hr,List.drop_eq_nil_of_le g9];rfl
 refine a2k ?_;refine eSG (oB 1 rfl ?_);exact F7 ⟨_,rfl,rfl⟩
theorem c19:E env (.call 151 []) []=some (.ret (.slice .sealed a3P.length (a3P.map V.str)) []):=(a3O env).le 5 _ _ _ zKr
theorem c18:E env (.call 116 []) []=some (.ret (.slice .sealed a4A.length (a4A.map V.str)) []):=(a3O env).le 5 _ _ _ zKr
theorem c50 (s:List UInt8)(i:Nat)(hi:i<s.length)(hs:s.length<4611686018427387904)(w:List UInt8)(hw:a2J s i 2=w):E env (.call 110 [.str s,.i i]) []=some (.ret (.i w.length) []):=by
 have h1:leB ((i+1:Nat):Int) s.length=true:=by simp only[leB,decide_eq_true_eq];omega
 simp only[a2J,h1,Bool.true_and]at hw;refine U3 rfl Tryz.func110 rfl rfl ?_;refine eSG (oB 1 rfl (eSG ?_));refine L9 rfl rfl rfl rfl rfl (c19 ..) rfl ?_;refine oB 1 rfl (E8 ?_);refine a3V (f:=110) [7,8,9,10,11,12,13,14,15,16,17,18,19,20] (fun(x:Bool) fr=>(21,.bool x)::fr) (fun x=>x =(leB ((i+2:Nat):Int) s.length&&b4M a3P ((s.take (i+2)).drop i))) zKr rSp ?_ ?_
 ·refine A7 (oA 1 rfl ?_);refine o7 rfl rfl (addN (k:=2) zOm) ?_;refine oA 4 rfl ?_;refine J3 rfl rfl rfl (fun g12=>?_) (fun g12=>?_)
  ·have g12':=g12;simp only[leB,decide_eq_true_eq]at g12';refine oA 4 rfl ?_;refine o7 rfl rfl (addN (k:=2) zOm) ?_;refine o7 rfl rfl (a0M (a6X zOm zOm) rfl) ?_;refine L9 rfl rfl rfl rfl rfl (c55 a3P _ zDe) rfl ?_;refine oB 2 rfl ?_;refine⟨?_,?_,?_,rfl⟩;rotate_left 2
   ·exact oFA
   rw[g12,Bool.true_and];exact a9R _ _ _
  refine oB 9 rfl ?_;refine⟨?_,?_,?_,rfl⟩;rotate_left 2
  ·exact oFA
  rw[g12];rfl
 intro x hx;show Ev _ _ _ _ _ ((21,V.bool x)::_) _ _;refine O6 rfl (fun g21=>?_) (fun g21=>?_)
 ·obtain rfl:w =(s.take (i+2)).drop i:=by rw[<-hw,<-hx,g21]
  have hl:((s.take (i+2)).drop i).length=2:=by
   rw[g21]at hx;have:=hx.symm;simp only[Bool.and_eq_true,leB,decide_eq_true_eq]at this;rw[List.length_drop,List.length_take];omega
  rw[hl];refine eSG (oB 1 rfl ?_);exact F7 ⟨_,rfl,rfl⟩
 rw[g21]at hx;rw[<-hx]at hw;refine H6 (E8 (eSG (oA 4 rfl ?_)));refine o7 rfl rfl (addN (k:=1) zOm) ?_;refine o7 rfl rfl (a0M (a6X zOm zOm) rfl) ?_;refine L9 rfl rfl rfl rfl rfl (c55 a3P _ zDe) rfl ?_;refine oB 1 rfl ?_;refine O6 rfl (fun g29=>?_) (fun g29=>?_)
 ·replace g29:b4M a3P ((s.take (i+1)).drop i)=true:=(a9R _ _ _).symm.trans g29;obtain rfl:w =(s.take (i+1)).drop i:=by rw[<-hw];simp only[g29]
  have hl:((s.take (i+1)).drop i).length=1:=by rw[List.length_drop,List.length_take];omega
  rw[hl];refine eSG (oB 1 rfl ?_);exact F7 ⟨_,rfl,rfl⟩
 replace g29:b4M a3P ((s.take (i+1)).drop i)=false:=(a9R _ _ _).symm.trans g29;obtain rfl:w=[]:=by rw[<-hw];simp only[g29]
 refine H6 (eSG (oB 1 rfl ?_));exact F7 ⟨_,rfl,rfl⟩
theorem c28 (s:List UInt8)(i:Nat)(hi:i<s.length)(hs:s.length<4611686018427387904)(b:Bool)(hb:(decide ((s.getD i 0).toNat=34)||O5 (s.getD i 0)||a1m (s.getD i 0)||decide (a2J s i 2 ≠ []))=b):E env (.call 65 [.str s,.i i]) []=some (.ret (.bool b) []):=by
 refine U3 rfl Tryz.func65 rfl rfl ?_;refine eSG (oB 1 rfl (eSG (oA 2 rfl ?_)));refine o7 rfl rfl (a0M (W9 zOm) rfl) ?_;refine oA 2 rfl ?_;refine J3 rfl rfl rfl (fun g9=>?_) (fun g9=>?_)
 ·replace g9:(s.getD i 0).toNat=34:=by simp only[eqB,Int.toNat_natCast,beq_iff_eq]at g9;omega
  refine oB 18 rfl ?_;obtain rfl:b=true:=by rw[<-hb,decide_eq_true g9];rfl
  exact F7 ⟨_,rfl,rfl⟩
 replace g9:(s.getD i 0).toNat≠34:=by simp only[eqB,Int.toNat_natCast,beq_eq_false_iff_ne,ne_eq]at g9;omega
 refine oA 2 rfl ?_;refine o7 rfl rfl (a0M (W9 zOm) rfl) ?_;refine L9 rfl rfl rfl rfl rfl (c48 ..) rfl ?_;refine oA 2 rfl ?_;refine J3 rfl rfl rfl (fun g15=>?_) (fun g15=>?_)
 ·simp only[Int.toNat_natCast]at g15;refine oB 12 rfl ?_;obtain rfl:b=true:=by rw[<-hb,g15];simp
  exact F7 ⟨_,rfl,rfl⟩
 simp only[Int.toNat_natCast]at g15;refine oA 2 rfl ?_;refine o7 rfl rfl (a0M (W9 zOm) rfl) ?_;refine L9 rfl rfl rfl rfl rfl (c49 ..) rfl ?_;refine oA 2 rfl ?_;refine J3 rfl rfl rfl (fun g21=>?_) (fun g21=>?_)
 ·simp only[Int.toNat_natCast]at g21;refine oB 6 rfl ?_;obtain rfl:b=true:=by rw[<-hb,g21];simp
  exact F7 ⟨_,rfl,rfl⟩
 simp only[Int.toNat_natCast]at g21;refine oA 2 rfl ?_;refine L9 rfl rfl rfl rfl rfl (c50 s i hi hs _ rfl) rfl ?_;refine oB 3 rfl ?_;subst hb;rw[decide_eq_false g9,g15,g21];have:ltB 0 ((a2J s i 2).length:Nat) =(false||false||false||decide (a2J s i 2 ≠ [])):=by
  simp only[ltB];rw[Bool.eq_iff_iff];simp[List.length_pos_iff]
 rw[<-this];exact F7 ⟨_,rfl,rfl⟩
variable {s:List UInt8} {r:Nat} {b:UInt8}
def b5B:Option Tok->Int->Nat->V|some t,_,_=>.tuple [.agg (b44 t.k t.t t.a t.l),.agg [.i 0,.i 0]]|none,c,a=>.tuple [.agg [.i 0,.str [],.i 0,.i 0],.agg [.i c,.i (a:Int)]]
def b4d (s:List UInt8)(i:Nat):V :=
 match O5 (s.getD i 0)with
 | true=>match a0q ((s.take (Z7 O5 s i)).drop i) (s.getD (Z7 O5 s i) 0)with
  | true=>b5B none 13 i
  | false=>b5B (some ⟨3,(s.take (Z7 O5 s i)).drop i,i,Z7 O5 s i-i⟩) 0 0
 | false=>match a1m (s.getD i 0)with
  | true=>match ltB 24 ((s.take (Z7 a0Z s i)).drop i).length with
   | true=>b5B none 14 i
   | false=>b5B (some ⟨a6Q ((s.take (Z7 a0Z s i)).drop i),(s.take (Z7 a0Z s i)).drop i,i,Z7 a0Z s i-i⟩) 0 0
  | false=>match a2J s i 2 with
   | []=>b5B none 10 i
   | w=>b5B (some ⟨8,w,i,w.length⟩) 0 0
theorem signK_eq {i:Nat}{w:List UInt8}(h:a2J s i 2=w)(hi:i<s.length):w =(s.take (i+w.length)).drop i:=by
 have h1:leB ((i+1:Nat):Int) s.length=true:=by simp only[leB,decide_eq_true_eq];omega
 simp only[a2J,h1,Bool.true_and]at h;split at h
 ·rename_i hx;simp only[Bool.and_eq_true,leB,decide_eq_true_eq]at hx;have hl:((s.take (i+2)).drop i).length=2:=by rw[List.length_drop,List.length_take];omega
  rw[<-h];show _ =(s.take (i+((s.take (i+2)).drop i).length)).drop i;rw[hl]
 split at h
 ·have hl:((s.take (i+1)).drop i).length=1:=by rw[List.length_drop,List.length_take];omega
  rw[<-h];show _ =(s.take (i+((s.take (i+1)).drop i).length)).drop i;rw[hl]
 subst h;simp
section
variable {w:List UInt8} {nx:UInt8}
theorem bad_eq:a0q w nx =((ltB 1 w.length&&eqB (w.getD 0 0).toNat 48) ||(ltB 19 w.length ||(eqB w.length 19 && !(ltS w a2N||eqS w a2N)))||a1m nx):=by
 unfold a0q;simp only[Bool.or_assoc]
theorem bad1 (h1:ltB 1 w.length=true)(h2:eqB (w.getD 0 0).toNat 48=true):a0q w nx=true:=by rw[bad_eq,h1,h2];rfl
theorem bad2 (h1:ltB 1 w.length=true)(h2:eqB (w.getD 0 0).toNat 48=false)(h3:(ltB 19 w.length ||(eqB w.length 19 && !(ltS w a2N||eqS w a2N)))=true):a0q w nx=true:=by rw[bad_eq,h1,h2,h3];rfl
theorem bad3 (h1:ltB 1 w.length=true)(h2:eqB (w.getD 0 0).toNat 48=false)(h3:(ltB 19 w.length ||(eqB w.length 19 && !(ltS w a2N||eqS w a2N)))=false):a0q w nx=a1m nx:=by rw[bad_eq,h1,h2,h3];rfl
theorem bad5 (h1:ltB 1 w.length=false)(h3:(ltB 19 w.length ||(eqB w.length 19 && !(ltS w a2N||eqS w a2N)))=true):a0q w nx=true:=by rw[bad_eq,h1,h3];rfl
theorem bad6 (h1:ltB 1 w.length=false)(h3:(ltB 19 w.length ||(eqB w.length 19 && !(ltS w a2N||eqS w a2N)))=false):a0q w nx=a1m nx:=by rw[bad_eq,h1,h3];rfl
theorem b8B (h:s.length<=r):a1m (s.getD r 0)=false:=by rw[b5o h];rfl
theorem bad4 (h1:ltB 1 w.length=true)(h2:eqB (w.getD 0 0).toNat 48=false)(h3:(ltB 19 w.length ||(eqB w.length 19 && !(ltS w a2N||eqS w a2N)))=false)(h:s.length<=r):a0q w (s.getD r 0)=false:=by rw[bad3 h1 h2 h3,b8B h]
theorem bad7 (h1:ltB 1 w.length=false)(h3:(ltB 19 w.length ||(eqB w.length 19 && !(ltS w a2N||eqS w a2N)))=false)(h:s.length<=r):a0q w (s.getD r 0)=false:=by rw[bad6 h1 h3,b8B h]
theorem cap1 (h:capB b=true):(match leB 65 b.toNat&&leB b.toNat 90 with|true=>2|false=>(1:Int))=2:=by
 have:(leB 65 b.toNat&&leB b.toNat 90)=true:=by rw[<-h,<-c1i];rfl
 rw[this]
theorem cap2 (h:capB b=false):(match leB 65 b.toNat&&leB b.toNat 90 with|true=>2|false=>(1:Int))=1:=by
 have:(leB 65 b.toNat&&leB b.toNat 90)=false:=by rw[<-h,<-c1i];rfl
 rw[this]
end
theorem c30 (s:List UInt8)(i:Nat)(hi:i<s.length)(hs:s.length<4611686018427387904):E env (.call 67 [.str s,.i i]) []=some (.ret (b4d s i) []):=by
 have hi1:i<=s.length:=zOm;refine U3 rfl Tryz.func67 rfl rfl ?_;refine eSG (oB 2 rfl (eSG (oA 2 rfl ?_)));refine o7 rfl rfl (a0M (W9 zOm) rfl) ?_;refine oB 1 rfl (E8 (eSG (oA 1 rfl ?_)));refine L9 rfl rfl rfl rfl rfl (c48 ..) rfl ?_;refine I4 ?_;refine O6 rfl (fun g17=>?_) (fun g17=>?_)
 ·simp only[Int.toNat_natCast]at g17;obtain⟨r,hr⟩:∃r,Z7 O5 s i=r:=⟨_,rfl⟩
  obtain⟨w,hw⟩:∃w,(s.take r).drop i=w:=⟨_,rfl⟩
  have hrg:i<r:=by rw[<-hr];exact a8B hi g17
  have hrle:r<=s.length:=by rw[<-hr];exact a7m hi1
  have hwl:w.length=r-i:=by rw[<-hw,List.length_drop,List.length_take];omega
  have hw0:w.getD 0 0=s.getD i 0:=by
   rw[<-hw,List.getD_eq_getElem?_getD,List.getElem?_drop,Nat.add_zero,List.getElem?_take_of_lt zOm,<-List.getD_eq_getElem?_getD]
  have hR:b4d s i =(match a0q w (s.getD r 0)with|true=>b5B none 13 i|false=>b5B (some ⟨3,w,i,r-i⟩) 0 0):=by
   unfold b4d;simp only[g17,hr,hw]
  rw[hR];have h51:=c51 s i hi1 hs;rw[hr]at h51;refine eSG (oA 2 rfl ?_);refine L9 rfl rfl rfl rfl rfl (h51) rfl ?_;refine oB 1 rfl (eSG (oA 3 rfl ?_));refine o7 rfl rfl (a0M (a6X zOm zOm) (show a5E (some (.str ((s.take (r:Int).toNat).drop (i:Int).toNat)))=some (.str w)by rw[<-hw];rfl)) ?_;refine oB 1 rfl (E8 ?_);refine a3V (f:=67) [25,26,27,28,29,30,31,32,33,34,35,36,37,38,39,40,41,42,43,44,45,46] (fun(x:Bool) fr=>(47,.bool x)::fr) (fun x=>x=a0q w (s.getD r 0)) zKr rSp ?_ ?_
  ·refine A7 (oA 4 rfl ?_);refine J3 rfl rfl rfl (fun g28=>?_) (fun g28=>?_)
   ·refine oA 4 rfl ?_;refine J3 rfl rfl rfl (fun g32=>?_) (fun g32=>?_)
    ·refine oB 15 rfl ?_;refine⟨?_,?_,?_,rfl⟩;rotate_left 2
     ·exact oFA
     exact(bad1 g28 (by rw[hw0];exact g32)).symm
    refine oA 1 rfl ?_;refine L9 rfl rfl rfl rfl rfl (c52 w _ rfl) rfl ?_;refine oA 2 rfl ?_;refine J3 rfl rfl rfl (fun g36=>?_) (fun g36=>?_)
    ·refine oB 11 rfl ?_;refine⟨?_,?_,?_,rfl⟩;rotate_left 2
     ·exact oFA
     exact(bad2 g28 (by rw[hw0];exact g32) g36).symm
    refine oA 5 rfl ?_;refine J3 rfl rfl rfl (fun g41=>?_) (fun g41=>?_)
    ·have g41':=g41;simp only[ltB,decide_eq_true_eq]at g41';refine oA 2 rfl ?_;refine o7 rfl rfl (a0M (W9 zOm) rfl) ?_;refine L9 rfl rfl rfl rfl rfl (c49 ..) rfl ?_;refine oB 2 rfl ?_;refine⟨?_,?_,?_,rfl⟩;rotate_left 2
     ·exact oFA
     exact(bad3 g28 (by rw[hw0];exact g32) g36).symm
    have g41':=g41;simp only[ltB,decide_eq_false_iff_not]at g41';refine oB 6 rfl ?_;refine⟨?_,?_,?_,rfl⟩;rotate_left 2
    ·exact oFA
    exact(bad4 g28 (by rw[hw0];exact g32) g36 zOm).symm
   refine oA 5 rfl ?_;refine L9 rfl rfl rfl rfl rfl (c52 w _ rfl) rfl ?_;refine oA 2 rfl ?_;refine J3 rfl rfl rfl (fun g36=>?_) (fun g36=>?_)
   ·refine oB 11 rfl ?_;refine⟨?_,?_,?_,rfl⟩;rotate_left 2
    ·exact oFA
    exact(bad5 g28 g36).symm
   refine oA 5 rfl ?_;refine J3 rfl rfl rfl (fun g41=>?_) (fun g41=>?_)
   ·have g41':=g41;simp only[ltB,decide_eq_true_eq]at g41';refine oA 2 rfl ?_;refine o7 rfl rfl (a0M (W9 zOm) rfl) ?_;refine L9 rfl rfl rfl rfl rfl (c49 ..) rfl ?_;refine oB 2 rfl ?_;refine⟨?_,?_,?_,rfl⟩;rotate_left 2
    ·exact oFA
    exact(bad6 g28 g36).symm
   have g41':=g41;simp only[ltB,decide_eq_false_iff_not]at g41';refine oB 6 rfl ?_;refine⟨?_,?_,?_,rfl⟩;rotate_left 2
   ·exact oFA
   exact(bad7 g28 g36 zOm).symm
  intro x hx;show Ev _ _ _ _ _ ((47,V.bool x)::_) _ _;refine O6 rfl (fun g47=>?_) (fun g47=>?_)
  ·rw[<-hx,g47];refine eSG ?_;refine oD ?_;refine oA 1 rfl ?_;refine oD ?_;refine oB 2 rfl ?_;exact F7 ⟨_,rfl,rfl⟩
  rw[<-hx,g47];refine H6 (eSG (oA 4 rfl ?_));refine o7 rfl rfl (subN zOm zOm) ?_;refine oD ?_;refine oD ?_;refine oB 2 rfl ?_;exact F7 ⟨_,rfl,rfl⟩
 simp only[Int.toNat_natCast]at g17;refine H6 (E8 (eSG (oA 1 rfl ?_)));refine L9 rfl rfl rfl rfl rfl (c49 ..) rfl ?_;refine I4 ?_;refine O6 rfl (fun g59=>?_) (fun g59=>?_)
 ·simp only[Int.toNat_natCast]at g59;obtain⟨r,hr⟩:∃r,Z7 a0Z s i=r:=⟨_,rfl⟩
  obtain⟨w,hw⟩:∃w,(s.take r).drop i=w:=⟨_,rfl⟩
  have hrg:i<r:=by rw[<-hr];exact a8B hi (by simp only[a0Z,g59,Bool.true_or])
  have hrle:r<=s.length:=by rw[<-hr];exact a7m hi1
  have hwl:w.length=r-i:=by rw[<-hw,List.length_drop,List.length_take];omega
  have hw0:w.getD 0 0=s.getD i 0:=by
   rw[<-hw,List.getD_eq_getElem?_getD,List.getElem?_drop,Nat.add_zero,List.getElem?_take_of_lt zOm,<-List.getD_eq_getElem?_getD]
  have hR:b4d s i =(match ltB 24 w.length with|true=>b5B none 14 i|false=>b5B (some ⟨a6Q w,w,i,r-i⟩) 0 0):=by
   unfold b4d;simp only[g17,g59,hr,hw]
  rw[hR];have h53:=c53 s i hi1 hs;rw[hr]at h53;refine eSG (oA 2 rfl ?_);refine L9 rfl rfl rfl rfl rfl (h53) rfl ?_;refine oB 1 rfl (eSG (oA 3 rfl ?_));refine o7 rfl rfl (a0M (a6X zOm zOm) (show a5E (some (.str ((s.take (r:Int).toNat).drop (i:Int).toNat)))=some (.str w)by rw[<-hw];rfl)) ?_;refine oB 1 rfl (E8 (eSG (oB 3 rfl ?_)));refine O6 rfl (fun g69=>?_) (fun g69=>?_)
  ·rw[show ltB 24 (w.length:Nat)=true from g69];refine eSG ?_;refine oD ?_;refine oA 1 rfl ?_;refine oD ?_;refine oB 2 rfl ?_;exact F7 ⟨_,rfl,rfl⟩
  rw[show ltB 24 (w.length:Nat)=false from g69];refine H6 (eSG (oB 1 rfl ?_));refine a3V (f:=67) [73,74] (fun(x:Int) fr=>(11,.i x)::fr) (fun x=>x =(match leB 65 (w.getD 0 0).toNat&&leB (w.getD 0 0).toNat 90 with|true=>2|false=>1)) zKr rSp ?_ ?_
  ·refine eSG (oA 1 rfl ?_);refine L9 rfl rfl rfl rfl rfl (c54 ..) rfl ?_;refine I4 ?_;refine O6 rfl (fun g74=>?_) (fun g74=>?_)
   ·refine A7 (oB 1 rfl ?_);refine⟨(2:Int),?_,?_,rfl⟩;rotate_left 1
    ·exact oFA
    exact(cap1 (by rw[hw0];exact g74)).symm
   refine H6 ?_;refine⟨(1:Int),?_,?_,rfl⟩;rotate_left 1
   ·exact oFA
   exact(cap2 (by rw[hw0];exact g74)).symm
  intro x hx;show Ev _ _ _ _ _ ((11,V.i x)::_) _ _;refine E8 (eSG ?_);refine L9 rfl rfl rfl rfl rfl (c18 ..) rfl ?_;refine oA 1 rfl ?_;refine L9 rfl rfl rfl rfl rfl (c55 a4A w zDe) rfl ?_;refine oB 1 rfl ?_;refine O6 rfl (fun g78=>?_) (fun g78=>?_)
  ·have hk:a6Q w=9:=by unfold a6Q;rw[<-a9R w a4A 0,show leB 0 (b1c w a4A 0)=true from g78]
   rw[hk];refine A7 (oB 1 rfl (eSG (oA 5 rfl ?_)));refine o7 rfl rfl (subN zOm zOm) ?_;refine oD ?_;refine oD ?_;refine oB 2 rfl ?_;exact F7 ⟨_,rfl,rfl⟩
  have hk:a6Q w=x:=by unfold a6Q;rw[<-a9R w a4A 0,show leB 0 (b1c w a4A 0)=false from g78,hx];rfl
  rw[hk];refine H6 (eSG (oA 5 rfl ?_));refine o7 rfl rfl (subN zOm zOm) ?_;refine oD ?_;refine oD ?_;refine oB 2 rfl ?_;exact F7 ⟨_,rfl,rfl⟩
 simp only[Int.toNat_natCast]at g59;obtain⟨w,hw⟩:∃w,a2J s i 2=w:=⟨_,rfl⟩
 have hwl:=b37 2 hi1;rw[hw]at hwl;have hwe:=signK_eq hw hi;have h50:=c50 s i hi hs w hw;refine H6 (E8 (eSG (oA 2 rfl ?_)));refine L9 rfl rfl rfl rfl rfl (h50) rfl ?_;refine oB 1 rfl (eSG (oB 2 rfl ?_));refine O6 rfl (fun g91=>?_) (fun g91=>?_)
 ·have hne:w ≠ []:=by
   intro e;rw[e]at g91;simp[ltB]at g91
  have hR:b4d s i=b5B (some ⟨8,w,i,w.length⟩) 0 0:=by
   unfold b4d;simp only[g17,g59,hw]
  rw[hR];refine eSG (oA 4 rfl ?_);refine o7 rfl rfl (addN zOm) ?_;refine o7 rfl rfl (a0M (a6X zOm zOm) (show some (V.str ((s.take (i+w.length)).drop i))=some (.str w)by rw[<-hwe])) ?_;refine oA 2 rfl ?_;refine oD ?_;refine oD ?_;refine oB 2 rfl ?_;exact F7 ⟨_,rfl,rfl⟩
 have hne:w=[]:=by
  cases w with
  | nil=>rfl
  | cons a l=>simp[ltB]at g91
 have hR:b4d s i=b5B none 10 i:=by
  unfold b4d;simp only[g17,g59,hw,hne]
 rw[hR];refine H6 (eSG ?_);refine oD ?_;refine oA 1 rfl ?_;refine oD ?_;refine oB 2 rfl ?_;exact F7 ⟨_,rfl,rfl⟩
structure PS where
 j:Nat
 text:List UInt8
 w:Nat
def partV:PR->V | .err c a=>.tuple [.agg [.str [],.i 0,.bool false],.agg [.i c,.i (a:Int)]] | .fin t e=>.tuple [.agg [.str t,.i (e:Int),.bool false],.agg [.i 0,.i 0]] | .more t e=>.tuple [.agg [.str t,.i (e:Int),.bool true],.agg [.i 0,.i 0]]
theorem c29 (s:List UInt8)(q i ins:Nat)(hi:i<=s.length)(hs:s.length<=100000):E env (.call 66 [.str s,.i q,.i i,.i ins]) []=some (.ret (partV (part s q ins i [])) []):=by
 obtain⟨R,hR⟩:∃R,part s q ins i []=R:=⟨_,rfl⟩
 rw[hR];refine U3 rfl Tryz.func66 rfl rfl ?_;refine eSG (oB 2 rfl (eSG (oB 1 rfl (E8 ?_))));refine M8 ?_;refine a4M rfl ?_;refine a6N (fun x:PS=>[(0,.str s),(1,.i (q:Nat)),(2,.i (x.j:Nat)),(3,.i (ins:Nat)),(8,.ptr 0 0),(9,.ptr 1 0),(10,.slice (.tag 2) x.text.length (a1n x.text))]) (fun x=>[(0,.row [.str [],.i 0,.bool false]),(1,.row [.i 0,.i 0]),(2,.tip x.w x.text.length)]) (fun x=>x.j<=s.length/\x.text.length<=x.j/\(x.w=0∨x.w=1)/\part s q ins x.j x.text=R) (fun x=>s.length-x.j) ⟨i,[],0⟩ ⟨hi,Nat.zero_le _,.inl rfl,hR⟩ ?_;intro⟨j,text,w⟩ ⟨hj,htj,hw,hR⟩ ih;simp only at hj htj hw hR ih;show Ev _ _ _ _ _ [(0,.str s),(1,.i (q:Nat)),(2,.i (j:Nat)),(3,.i (ins:Nat)),(8,.ptr 0 0),(9,.ptr 1 0),(10,.slice (.tag 2) text.length (a1n text))] [(0,.row [.str [],.i 0,.bool false]),(1,.row [.i 0,.i 0]),(2,.tip w text.length)] _;refine E8 ?_;refine a3V (f:=66) [13,14,15,16,17,18,19,20,21] (fun(x:Bool) fr=>(22,.bool x)::fr) (fun x=>x =(decide (j<s.length)&&decide (32 <=(s.getD j 0).toNat))) zKr rSp ?_ ?_
 ·refine A7 (oA 5 rfl ?_);refine J3 rfl rfl rfl (fun g17=>?_) (fun g17=>?_)
  ·try simp only[zB]at g17
   refine oA 2 rfl ?_;refine o7 rfl rfl (a0M (W9 zOm) rfl) ?_;refine oB 2 rfl ?_;refine⟨?_,?_,?_,rfl⟩;rotate_left 2
   ·exact oFA
   rw[decide_eq_true (show j<s.length by omega),Bool.true_and];simp only[leB,Int.toNat_natCast];rw[Bool.eq_iff_iff];simp;omega
  try simp only[zB]at g17
  refine oB 5 rfl ?_;refine⟨?_,?_,?_,rfl⟩;rotate_left 2
  ·exact oFA
  rw[decide_eq_false zOm];rfl
 intro x hx;show Ev _ _ _ _ _ ((22,V.bool x)::_) _ _;refine O6 rfl (fun g22=>?_) (fun g22=>?_)
 ·rw[g22]at hx;have hx2:=hx.symm;simp only[Bool.and_eq_true,decide_eq_true_eq]at hx2;obtain⟨h1,h2⟩:=hx2;refine H6 ?_;refine M8 ?_;refine eSG (oA 2 rfl ?_);refine o7 rfl rfl (a0M (W9 zOm) rfl) ?_;refine oB 1 rfl (E8 (eSG (oB 2 rfl ?_)));refine O6 rfl (fun g27=>?_) (fun g27=>?_)
  ·try simp only[zB]at g27
   refine eSG (oA 1 rfl ?_);refine b0y rfl rfl rfl (b3K text) ?_;refine oA 1 rfl ?_;refine o7 rfl rfl (add1 zOm) ?_;refine oD ?_;refine oD ?_;refine oB 2 rfl ?_;rw[<-hR,b85 h1 h2 zOm];exact F7 ⟨_,rfl,rfl⟩
  try simp only[zB]at g27
  refine H6 (E8 (eSG (oB 2 rfl ?_)));refine O6 rfl (fun g35=>?_) (fun g35=>?_)
  ·try simp only[zB]at g35
   refine eSG (oA 3 rfl ?_);refine a3I rfl rfl rfl rfl rfl rfl rfl rfl rfl rfl rfl (a9G (a2d rfl) rfl) rfl rfl hw rfl (a6v text).symm (by show(text.length+1)*2<=_;omega) (a8m text (s.getD j 0)) (a5K text (s.getD j 0)) rfl ?_;refine oB 1 rfl (eSG (oA 1 rfl ?_));refine o7 rfl rfl (add1 zOm) ?_;refine oB 1 rfl ?_;refine a2k ?_;exact⟨_,_,rfl,ih ⟨j+1,text++[s.getD j 0],1⟩ (by show s.length-(j+1)<s.length-j;omega) ⟨by show j+1<=s.length;omega,by show List.length (text++[s.getD j 0])<=j+1;simp only[List.length_append,List.length_cons,List.length_nil];omega,.inr rfl,by show part s q ins (j+1) (text++[s.getD j 0])=R;rw[<-hR,c0J h1 h2 zOm zOm]⟩⟩
  try simp only[zB]at g35
  refine H6 (eSG (oB 1 rfl ?_));refine a3V (f:=66) [42,43,44,45,46,47,48,49,50] (fun(x:Nat) fr=>(12,.int .u8 (x:Nat))::fr) (fun x=>x =(s.getD (j+1) 0).toNat/\(x≠0->j+1<s.length)) zKr rSp ?_ ?_
  ·refine eSG (oA 1 rfl ?_);refine o7 rfl rfl (add1 zOm) ?_;refine oB 3 rfl ?_;refine O6 rfl (fun g46=>?_) (fun g46=>?_)
   ·try simp only[zB]at g46
    refine A7 (oA 2 rfl ?_);refine o7 rfl rfl (add1 zOm) ?_;refine o7 rfl rfl (a0M (W9 zOm) rfl) ?_;refine oB 1 rfl ?_;refine⟨((s.getD (j+1) 0).toNat),?_,?_,rfl⟩;rotate_left 1
    ·exact oFA
    exact⟨rfl,fun _=>zOm⟩
   try simp only[zB]at g46
   refine H6 ?_;refine⟨0,?_,?_,rfl⟩;rotate_left 1
   ·exact oFA
   exact⟨by rw[b5o (show s.length<=j+1 by omega)];rfl,fun h=>absurd rfl h⟩
  intro x ⟨hx0,hxl⟩;show Ev _ _ _ _ _ ((12,V.int .u8 (x:Nat))::_) _ _;refine E8 (eSG (oB 1 rfl ?_));refine M8 ?_;refine eSG (oB 2 rfl ?_);refine O6 rfl (fun g55=>?_) (fun g55=>?_)
  ·try simp only[zB]at g55
   refine A7 (oA 2 rfl ?_);refine a3I rfl rfl rfl rfl rfl rfl rfl rfl rfl rfl rfl (a9G (a2d rfl) rfl) rfl rfl hw rfl (a6v text).symm (by show(text.length+1)*2<=_;omega) (a8m text (10)) (a5K text (10)) rfl ?_;refine oB 1 rfl (A7 (oA 1 rfl ?_));refine o7 rfl rfl (add2 zOm) ?_;refine oB 1 rfl ?_;exact⟨_,_,rfl,ih ⟨j+2,text++[10],1⟩ (by show s.length-(j+2)<s.length-j;omega) ⟨by show j+2<=s.length;omega,by show List.length (text++[10])<=j+2;simp only[List.length_append,List.length_cons,List.length_nil];omega,.inr rfl,by show part s q ins (j+2) (text++[10])=R;rw[<-hR,part_n h1 h2 zOm zOm]⟩⟩
  try simp only[zB]at g55
  refine eSG (oB 2 rfl ?_);refine O6 rfl (fun g60=>?_) (fun g60=>?_)
  ·try simp only[zB]at g60
   refine A7 (oA 2 rfl ?_);refine a3I rfl rfl rfl rfl rfl rfl rfl rfl rfl rfl rfl (a9G (a2d rfl) rfl) rfl rfl hw rfl (a6v text).symm (by show(text.length+1)*2<=_;omega) (a8m text (9)) (a5K text (9)) rfl ?_;refine oB 1 rfl (A7 (oA 1 rfl ?_));refine o7 rfl rfl (add2 zOm) ?_;refine oB 1 rfl ?_;exact⟨_,_,rfl,ih ⟨j+2,text++[9],1⟩ (by show s.length-(j+2)<s.length-j;omega) ⟨by show j+2<=s.length;omega,by show List.length (text++[9])<=j+2;simp only[List.length_append,List.length_cons,List.length_nil];omega,.inr rfl,by show part s q ins (j+2) (text++[9])=R;rw[<-hR,part_t h1 h2 zOm zOm]⟩⟩
  try simp only[zB]at g60
  refine a3V (f:=66) [66,67] (fun(x:Bool) fr=>(65,.bool x)::fr) (fun y=>y =(decide (x=92)||decide (x=34))) zKr rSp ?_ ?_
  ·refine eSG (oB 2 rfl ?_);refine O6 rfl (fun g65=>?_) (fun g65=>?_)
   ·refine H6 ?_;refine⟨?_,?_,?_,rfl⟩;rotate_left 2
    ·exact oFA
    rw[decide_eq_true (show x=92 by simp only[eqB,beq_iff_eq]at g65;omega)];first|rfl|exact g65
   refine A7 (oB 2 rfl ?_);refine⟨?_,?_,?_,rfl⟩;rotate_left 2
   ·exact oFA
   rw[decide_eq_false (show ¬x=92 by simp only[eqB,beq_eq_false_iff_ne,ne_eq]at g65;omega),Bool.false_or];simp only[eqB];rw[Bool.eq_iff_iff];simp;omega
  intro y hy;show Ev _ _ _ _ _ ((65,V.bool y)::_) _ _;refine O6 rfl (fun g65=>?_) (fun g65=>?_)
  ·refine A7 (oA 3 rfl ?_);rw[g65]at hy;have hy2:=hy.symm;simp only[Bool.or_eq_true,decide_eq_true_eq]at hy2;subst hx0;refine a3I rfl rfl rfl rfl rfl rfl rfl rfl rfl rfl rfl (a9G (a2d rfl) rfl) rfl rfl hw rfl (a6v text).symm (by show(text.length+1)*2<=_;omega) (a8m text (s.getD (j+1) 0)) (a5K text (s.getD (j+1) 0)) rfl ?_;refine oB 1 rfl (A7 (oA 1 rfl ?_));refine o7 rfl rfl (add2 zOm) ?_;refine oB 1 rfl ?_;exact⟨_,_,rfl,ih ⟨j+2,text++[s.getD (j+1) 0],1⟩ (by show s.length-(j+2)<s.length-j;omega) ⟨by show j+2<=s.length;omega,by show List.length (text++[s.getD (j+1) 0])<=j+2;simp only[List.length_append,List.length_cons,List.length_nil];omega,.inr rfl,by show part s q ins (j+2) (text++[s.getD (j+1) 0])=R;rw[<-hR,b6B h1 h2 zOm zOm]⟩⟩
  refine eSG (oB 2 rfl ?_);refine O6 rfl (fun g72=>?_) (fun g72=>?_)
  ·rw[g65]at hy;have hy2:=hy.symm;simp only[Bool.or_eq_false_iff,decide_eq_false_iff_not]at hy2;try simp only[zB]at g72
   refine E8 (eSG (oB 2 rfl ?_));refine O6 rfl (fun g75=>?_) (fun g75=>?_)
   ·try simp only[zB]at g75
    refine eSG ?_;refine oD ?_;refine oA 1 rfl ?_;refine oD ?_;refine oB 2 rfl ?_;rw[<-hR,c0K h1 h2 zOm zOm zOm];exact F7 ⟨_,rfl,rfl⟩
   try simp only[zB]at g75
   refine H6 (eSG (oA 1 rfl ?_));refine b0y rfl rfl rfl (b3K text) ?_;refine oA 1 rfl ?_;refine o7 rfl rfl (add2 zOm) ?_;refine oD ?_;refine oD ?_;refine oB 2 rfl ?_;rw[<-hR,b6A h1 h2 zOm zOm zOm];exact F7 ⟨_,rfl,rfl⟩
  rw[g65]at hy;have hy2:=hy.symm;simp only[Bool.or_eq_false_iff,decide_eq_false_iff_not]at hy2;try simp only[zB]at g72
  refine eSG ?_;refine oD ?_;refine oA 1 rfl ?_;refine oD ?_;refine oB 2 rfl ?_;rw[<-hR,c4b h1 h2 zOm zOm zOm zOm zOm zOm];exact F7 ⟨_,rfl,rfl⟩
 have hP:part s q ins j text=.err 11 q:=by
  rw[g22]at hx;rcases Nat.lt_or_ge j s.length with h|h
  ·rw[decide_eq_true h,Bool.true_and]at hx;have hx2:=hx.symm;simp only[decide_eq_false_iff_not]at hx2;exact c4d zOm
  exact c4c h
 rw[<-hR,hP];refine a2k ?_;refine eSG ?_;refine oD ?_;refine oA 1 rfl ?_;refine oD ?_;refine oB 2 rfl ?_;exact F7 ⟨_,rfl,rfl⟩
variable {k:Nat}
theorem getD_lt' {s:List UInt8}(h:(s.getD k 0).toNat≠0):k<s.length:=by
 rcases Nat.lt_or_ge k s.length with h1|h1
 ·exact h1
 rw[b5o h1]at h;exact absurd rfl h
def PRok (s:List UInt8)(i:Nat):PR->Prop | .err c _=>c=11∨c=12∨c=15 | .fin _ e=>i<e/\e<=s.length | .more _ e=>i<e/\e<=s.length
theorem PRok.mono {s:List UInt8}{i j:Nat}(h:i<=j):∀{r:PR},PRok s j r->PRok s i r
 | .err _ _,g=>g
 | .fin _ _,g=>⟨Nat.lt_of_le_of_lt h g.1,g.2⟩
 | .more _ _,g=>⟨Nat.lt_of_le_of_lt h g.1,g.2⟩
theorem c4a (s:List UInt8)(q ins:Nat):∀(f i:Nat) (text:List UInt8),PRok s i (b1t s q ins f i text)
 | 0,i,text=>.inl rfl
 | f+1,i,text=>by
  have ih:=c4a s q ins f;simp only[b1t];split
  ·exact .inl rfl
  rename_i h1;simp only[Bool.and_eq_true,decide_eq_true_eq]at h1;split
  ·exact⟨zOm,zOm⟩
  split
  ·exact(ih (i+1) _).mono zOm
  split
  ·exact(ih (i+2) _).mono zOm
  split
  ·exact(ih (i+2) _).mono zOm
  split
  ·exact(ih (i+2) _).mono zOm
  split
  ·rename_i h2;simp only[decide_eq_true_eq]at h2;split
   ·exact .inr (.inr rfl)
   have:=getD_lt' (s:=s) (k:=i+1) zOm;exact⟨zOm,zOm⟩
  exact .inr (.inl rfl)
theorem c1X (s:List UInt8)(q ins i:Nat)(text:List UInt8):PRok s i (part s q ins i text):=c4a s q ins _ i text
section
variable {s:List UInt8} {i i0:Nat} {toks:List Tok} {st:List (Nat×Int)} (h0:a0K s i0=i) (hi:i<s.length)
include h0 hi
theorem c6h (hb:(s.getD i 0).toNat=41):a2J s i 2 ≠ []:=by
 have h1:leB ((i+1:Nat):Int) s.length=true:=by simp only[leB,decide_eq_true_eq];omega
 simp only[a2J,h1,Bool.true_and];split
 ·rename_i hx;simp only[Bool.and_eq_true,leB,decide_eq_true_eq]at hx;have hl:((s.take (i+2)).drop i).length=2:=by rw[List.length_drop,List.length_take];omega
  intro e;have:((s.take (i+2)).drop i).length=0:=by rw[show(s.take (i+2)).drop i=[]from e];rfl
  omega
 have hd:(s.take (i+(0+1))).drop i=[41]:=by
  have e1:(s.take (i+1)).drop i=[s.getD i 0]:=by
   rw[List.take_succ_eq_append_getElem hi,List.drop_append_of_le_length (by simp;omega)];simp[hi]
  rw[Nat.zero_add,e1,show s.getD i 0=41 from UInt8.toNat_inj.1 hb]
 rw[hd,show b4M a3P [41]=true by decide];simp
theorem c5r (hn:(decide ((s.getD i 0).toNat=34)||O5 (s.getD i 0)||a1m (s.getD i 0)||decide (a2J s i 2 ≠ []))=false):stepM s ⟨i0,toks,st⟩=.err 10 i:=by
 simp only[Bool.or_eq_false_iff,decide_eq_false_iff_not]at hn;obtain⟨⟨⟨h1,h2⟩,h3⟩,h4⟩:=hn;have h4:a2J s i 2=[]:=by cases h:a2J s i 2 with
  | nil=>rfl
  | cons a l=>rw[h]at h4;exact absurd zSi h4
 refine a8R h0 hi (b3J fun hb=>c6h h0 hi hb h4) h1 h2 h3 h4
theorem a7n {q:Nat}{p:Int}(hc:closes (s.getD i 0).toNat ((q,p)::st)=true):p=0/\stepM s ⟨i0,toks,(q,p)::st⟩=roomy toks i (a5Q toks st q i 7 6 (part s q st.length (i+1) [])):=by
 have h:=hc;simp only[closes,Bool.and_eq_true,decide_eq_true_eq]at h;obtain⟨rfl,h2⟩:=h;exact⟨rfl,a9o h0 hi h2⟩
theorem c6A (hn:(decide ((s.getD i 0).toNat=34)||O5 (s.getD i 0)||a1m (s.getD i 0)||decide (a2J s i 2 ≠ []))=true)(ht:toks.length=3000):stepM s ⟨i0,toks,st⟩=.err 2 i:=by
 have hr:∀r,roomy toks i r=.err 2 i:=fun r=>a7L (by simp only[leB,decide_eq_true_eq];omega);cases hc:closes (s.getD i 0).toNat st with
 | true =>
  cases st with
  | nil=>cases hc
  | cons x st=>obtain⟨q,p⟩:=x;rw[(a7n h0 hi hc).2,hr]
 | false =>
  by_cases h1:(s.getD i 0).toNat=34
  ·rw[a8U h0 hi hc h1,hr]
  cases h2:O5 (s.getD i 0)with
  | true=>rw[a6r h0 hi hc h1 h2,hr]
  | false =>
   cases h3:a1m (s.getD i 0)with
   | true=>rw[a6a h0 hi hc h1 h2 h3,hr]
   | false =>
    rw[h2,h3,decide_eq_false h1]at hn;simp only[Bool.false_or,decide_eq_true_eq]at hn;rw[a6g h0 hi hc h1 h2 h3 rfl hn,hr]
theorem c8W (hc:closes (s.getD i 0).toNat st=false)(h1:(s.getD i 0).toNat≠34)(hn:(decide ((s.getD i 0).toNat=34)||O5 (s.getD i 0)||a1m (s.getD i 0)||decide (a2J s i 2 ≠ []))=true)(ht:toks.length<3000) :
  (∃c,c≠0/\b4d s i=b5B none c i/\stepM s ⟨i0,toks,st⟩=.err c i)∨(∃t:Tok,b4d s i=b5B (some t) 0 0/\0<t.l/\i+t.l<=s.length/\stepM s ⟨i0,toks,st⟩=.go ⟨i+t.l,toks++[t],match decide (t.k=8)with|true=>bump t.t st|false=>st⟩):=by
 have hr:∀r,roomy toks i r=r:=fun r=>b1B (by simp only[leB,decide_eq_false_iff_not];omega);have hi1:i<=s.length:=zOm;cases h2:O5 (s.getD i 0)with
 | true =>
  rw[a6r h0 hi hc h1 h2,hr];have hg:=a8B hi h2;have hl:=a7m (p:=O5) hi1;cases hb:a0q ((s.take (Z7 O5 s i)).drop i) (s.getD (Z7 O5 s i) 0)with
  | true=>exact .inl ⟨13,zDe,by unfold b4d;simp only[h2,hb],rfl⟩
  | false=>exact .inr ⟨⟨3,(s.take (Z7 O5 s i)).drop i,i,Z7 O5 s i-i⟩,by unfold b4d;simp only[h2,hb],by show 0<Z7 O5 s i-i;omega,by show i+(Z7 O5 s i-i)<=_;omega,by show _=MR.go ⟨i+(Z7 O5 s i-i),_,_⟩;rw[show i+(Z7 O5 s i-i)=Z7 O5 s i by omega];rfl⟩
 | false =>
  cases h3:a1m (s.getD i 0)with
  | true =>
   rw[a6a h0 hi hc h1 h2 h3,hr];have hg:=a8B (p:=a0Z) hi (by simp only[a0Z,h3,Bool.true_or]);have hl:=a7m (p:=a0Z) hi1;cases hb:ltB 24 ((s.take (Z7 a0Z s i)).drop i).length with
   | true=>exact .inl ⟨14,zDe,by unfold b4d;simp only[h2,h3,hb],rfl⟩
   | false =>
    refine .inr ⟨⟨a6Q ((s.take (Z7 a0Z s i)).drop i),(s.take (Z7 a0Z s i)).drop i,i,Z7 a0Z s i-i⟩,by unfold b4d;simp only[h2,h3,hb],by show 0<Z7 a0Z s i-i;omega,by show i+(Z7 a0Z s i-i)<=_;omega,?_⟩;show _=MR.go ⟨i+(Z7 a0Z s i-i),_,match decide (a6Q _=8)with|true=>_|false=>_⟩;have hk:∀w,decide (a6Q w=8)=false:=by
     intro w;unfold a6Q;split
     ·simp
     split<;>simp
    rw[show i+(Z7 a0Z s i-i)=Z7 a0Z s i by omega,hk]
  | false =>
   rw[h2,h3,decide_eq_false h1]at hn;simp only[Bool.false_or,decide_eq_true_eq]at hn;rw[a6g h0 hi hc h1 h2 h3 rfl hn,hr];have hl:=b37 2 hi1;refine .inr ⟨⟨8,a2J s i 2,i,(a2J s i 2).length⟩,?_,List.length_pos_iff.2 hn,by show i+(a2J s i 2).length<=_;omega,rfl⟩;unfold b4d;simp only[h2,h3]
end
def qL (st:List (Nat×Int)):List V:=st.reverse.map fun x=>V.i (x.1:Int)
def pL (st:List (Nat×Int)):List V:=st.reverse.map fun x=>V.i x.2
theorem c2j (st:List (Nat×Int)):(qL st).length=st.length:=by simp[qL]
theorem b0O (st:List (Nat×Int)):(pL st).length=st.length:=by simp[pL]
theorem b2f (q:Nat)(p:Int)(st:List (Nat×Int)):qL ((q,p)::st)=qL st++[.i (q:Int)]:=by simp[qL]
theorem b5D (q:Nat)(p:Int)(st:List (Nat×Int)):pL ((q,p)::st)=pL st++[.i p]:=by simp[pL]
theorem qL_top (q:Nat)(p:Int)(st:List (Nat×Int))(j:List V):(qL ((q,p)::st)++j)[st.length]? = some (.i (q:Int)):=by
 rw[b2f,List.append_assoc,List.getElem?_append_right (by rw[c2j];omega),c2j];simp
theorem c6f (q:Nat)(p:Int)(st:List (Nat×Int))(j:List V):(pL ((q,p)::st)++j)[st.length]? = some (.i p):=by
 rw[b5D,List.append_assoc,List.getElem?_append_right (by rw[b0O];omega),b0O];simp
theorem pL_set (q:Nat)(p p':Int)(st:List (Nat×Int))(j:List V):R9 (pL ((q,p)::st)++j) st.length [.i p']=pL ((q,p')::st)++j:=by
 have h:(pL ((q,p)::st)++j)=pL st ++([V.i p]++j):=by rw[b5D,List.append_assoc]
 unfold R9;rw[h,b5D,List.take_append_of_le_length (by rw[b0O];omega),List.take_of_length_le (by rw[b0O];omega),List.drop_append,List.drop_of_length_le (by rw[b0O];simp)];rw[b0O];simp
theorem ldG {r:Nat}{H:Hp}{cs:List V}{v:V}(h:hget r H=some (.grow 1 cs))(hv:cs[k]? = some v):a6s env.T 3 (.ptr r (0+(k:Int).toNat*1)) H=some v:=by
 show(match hget r H with|some (.row cs)=>_|some (.grow _ cs)=>cs[0+(k:Int).toNat*1]? | _=>none)=_;rw[h];simpa using hv
structure RS where
 i0:Nat
 i:Nat
 toks:List Tok
 st:List (Nat×Int)
 jq:List V
 jp:List V
 e:Nat
variable {H:Hp} {n:Int} {c s:List UInt8} {cs:List V} {b k r:Nat} {t:Tok}
theorem b5Z {st:List (Nat×Int)}(h:ltB 0 (st.length:Nat)=true):∃q p st',st =(q,p)::st':=by
 cases st with
 | nil=>simp[ltB]at h
 | cons x st=>exact⟨x.1,x.2,st,rfl⟩
theorem c5s {st:List (Nat×Int)}(h:closes b st=true):ltB 0 (st.length:Nat)=true:=by
 cases st with
 | nil=>cases h
 | cons x st=>simp only[ltB,decide_eq_true_eq,List.length_cons];omega
theorem closesA {q:Nat}{p:Int}{st:List (Nat×Int)}(h:eqB (b:Int) 41=true):closes b ((q,p)::st)=eqB p 0:=by
 simp only[eqB,beq_iff_eq]at h ⊢;obtain rfl:b=41:=zOm;simp only[closes,decide_true,Bool.and_true];rw[Bool.eq_iff_iff];simp
theorem closesB {st:List (Nat×Int)}(h:eqB (b:Int) 41=false):closes b st=false:=by
 simp only[eqB,beq_eq_false_iff_ne,ne_eq]at h;exact b3J zOm
theorem closesC {st:List (Nat×Int)}(h:ltB 0 (st.length:Nat)=false):closes b st=false:=by
 cases st with
 | nil=>rfl
 | cons x st=>simp only[ltB,List.length_cons,decide_eq_false_iff_not]at h;omega
structure QS where
 q:Nat
 st:List (Nat×Int)
 last:Int
 more:Int
section
variable {z st:List (Nat×Int)} (h:z=st ∨ ∃y,st=y::z)
include h
theorem sub_len:z.length<=st.length:=by
 rcases h with rfl |⟨y,rfl⟩
 ·exact Nat.le_refl _
 simp
theorem sub_mem:∀y∈z,y∈st:=by
 rcases h with rfl |⟨y,rfl⟩
 ·exact fun y hy=>hy
 exact fun y hy=>List.mem_cons_of_mem _ hy
theorem sub_qp (jq jp:List V):∃jq' jp',qL st++jq=qL z++jq'/\pL st++jp=pL z++jp':=by
 rcases h with rfl |⟨⟨q,p⟩,rfl⟩
 ·exact⟨jq,jp,rfl,rfl⟩
 exact⟨_,_,by rw[b2f,List.append_assoc],by rw[b5D,List.append_assoc]⟩
end
theorem qL_push (q:Nat)(st:List (Nat×Int))(j:List V):(qL st++j).take (st.length*1)++[V.i (q:Int)]=qL ((q,0)::st)++[]:=by
 rw[Nat.mul_one,<-c2j st,List.take_left,b2f,List.append_nil]
theorem pL_push (q:Nat)(st:List (Nat×Int))(j:List V):(pL st++j).take (st.length*1)++[V.i 0]=pL ((q,0)::st)++[]:=by
 rw[Nat.mul_one,<-b0O st,List.take_left,b5D,List.append_nil]
theorem neq_err {i a:Nat}{c:Int}(h:PRok s i (.err c a)):(!eqB c 0)=true:=by
 rcases h with rfl|rfl|rfl<;>simp[eqB]
theorem c5X:(!eqB 0 0)=false:=by simp[eqB]
theorem neq_no {c:Int}(h:c≠0):(!eqB c 0)=true:=by simp[eqB,h]
theorem b1i (l:List Tok)(t:Tok):l.length+1 =(l++[t]).length:=zSi
theorem andA {st:List (Nat×Int)}(h1:ltB 0 (st.length:Nat)=true)(h2:eqB t.k 8=true):eqS t.t c =(decide (0<st.length)&&decide (t.k=8)&&decide (t.t=c)):=by
 simp only[ltB,decide_eq_true_eq]at h1;simp only[eqB,beq_iff_eq]at h2;rw[decide_eq_true (show 0<st.length by omega),decide_eq_true h2];simp only[eqS,Bool.true_and];rw[Bool.eq_iff_iff];simp
theorem andB {st:List (Nat×Int)}(h2:eqB t.k 8=false):false =(decide (0<st.length)&&decide (t.k=8)&&decide (t.t=c)):=by
 simp only[eqB,beq_eq_false_iff_ne,ne_eq]at h2;rw[decide_eq_false h2];simp
theorem andC {st:List (Nat×Int)}(h1:ltB 0 (st.length:Nat)=false):false =(decide (0<st.length)&&decide (t.k=8)&&decide (t.t=c)):=by
 simp only[ltB,decide_eq_false_iff_not]at h1;rw[decide_eq_false (show ¬0<st.length by omega)];simp
theorem bump_no {st:List (Nat×Int)}(hu:false =(decide (0<st.length)&&decide (t.k=8)&&decide (t.t=[40])))(hw:false =(decide (0<st.length)&&decide (t.k=8)&&decide (t.t=[41]))):(match decide (t.k=8)with|true=>bump t.t st|false=>st)=st:=by
 cases st with
 | nil=>cases decide (t.k=8)<;>rfl
 | cons x st =>
  cases h:decide (t.k=8)with
  | false=>rfl
  | true =>
   rw[h]at hu hw;simp only[List.length_cons,Nat.zero_lt_succ,decide_true,Bool.true_and]at hu hw;obtain⟨q,p⟩:=x;simp only[bump,<-hu,<-hw]
theorem stG (h:hget r H=some (.grow 1 cs))(hk:k+1<=cs.length):a7e env.T 3 (.ptr r (0+(k:Int).toNat*1)) (.i n) H=some (hset r (.grow 1 (R9 cs k [.i n])) H):=by
 have h1:leN (0+(k:Int).toNat*1+1) cs.length=true:=a9s (by simp;omega);show(match hget r H with|some (.row cs)=>_|some (.grow e cs)=>gd (leN (0+(k:Int).toNat*1+1) cs.length) (some (hset r (.grow e (R9 cs (0+(k:Int).toNat*1) [.i n])) H))|_=>none)=_;rw[h];simp only[h1,gd];congr 4;simp
theorem stG2 {H1:Hp}{cs':List V}(h:hget r H=some (.grow 1 cs))(hk:k+1<=cs.length)(hc:R9 cs k [.i n]=cs')(hH:a0x (some (hset r (.grow 1 cs') H))=some H1):a0x (a7e env.T 3 (.ptr r (0+(k:Int).toNat*1)) (.i n) H)=some H1:=by
 rw[stG h hk,hc];exact hH
theorem c12P (h0:s.length<=8000):∃v H2,E env (.call 34 [.str s]) []=some (.ret v H2)/\H2=[] /\ ∃r,Ends s ⟨0,[],[]⟩ r/\v=b3z r:=by
  have hs4:s.length<4611686018427387904:=zOm;refine b3I rfl Tryz.func34 rfl rfl ?_;refine eSG (oB 2 rfl (E8 (eSG (oB 3 rfl ?_))));refine O6 rfl (fun g21=>?_) (fun g21=>?_)
  · exfalso;simp only[ltB,decide_eq_true_eq]at g21;omega
  refine H6 (eSG (oB 1 rfl (eSG (oB 2 rfl (eSG (oA 1 rfl ?_))))));refine L9 rfl rfl rfl rfl rfl (c27 s 0 (Nat.zero_le _) hs4) rfl ?_;refine oB 1 rfl (E8 ?_);refine M8 ?_;refine a4M rfl ?_;refine a6N (fun x:RS=>[(0,.str s),(3,.ptr 0 0),(5,.rslice 1 0 x.st.length true),(6,.rslice 2 0 x.st.length true),(4,.slice (.tag 3) x.toks.length (a4v x.toks)),(7,.i (x.i:Nat))]) (fun x=>[(0,.row [.i 0,.i 0]),(1,.grow 1 (qL x.st ++ x.jq)),(2,.grow 1 (pL x.st ++ x.jp)),(3,.tip x.e x.toks.length)])
      (fun x=>a0K s x.i0=x.i/\x.i<=s.length/\x.toks.length<=3000/\x.st.length<=x.toks.length/\(x.e=0∨x.e=4)/\(∀y∈x.st,-(x.i0:Int)<=y.2/\y.2 <=(x.i0:Int))/\Reach s ⟨0,[],[]⟩ ⟨x.i0,x.toks,x.st⟩)
      (fun x=>s.length-x.i) ⟨0,a0K s 0,[],[],[],[],0⟩ ⟨rfl,b0g (Nat.zero_le _),Nat.zero_le _,Nat.zero_le _,.inl rfl,fun y hy=>(by cases hy),.refl _⟩ ?_
  intro⟨i0,i,toks,st,jq,jp,e⟩ ⟨hi0,hil,ht,hst0,he,hbd,hR⟩ ih;simp only at hi0 hil ht hst0 he hbd hR ih;show Ev _ _ _ _ _ [(0,.str s),(3,.ptr 0 0),(5,.rslice 1 0 st.length true),(6,.rslice 2 0 st.length true),(4,.slice (.tag 3) toks.length (a4v toks)),(7,.i (i:Nat))] [(0,.row [.i 0,.i 0]),(1,.grow 1 (qL st++jq)),(2,.grow 1 (pL st++jp)),(3,.tip e toks.length)] _;have hii:i0<=i:=by rw[<-hi0];exact b0f
  refine E8 (eSG (oB 4 rfl ?_));refine O6 rfl (fun g28=>?_) (fun g28=>?_)
  · replace g28:i<s.length:=by simpa [ltN]using g28
    refine H6 ?_;refine M8 ?_;refine eSG (oB 3 rfl (E8 (eSG (oA 2 rfl ?_))));cases hbeg:(decide ((s.getD i 0).toNat=34)||O5 (s.getD i 0)||a1m (s.getD i 0)||decide (a2J s i 2 ≠ []))
    · refine L9 rfl rfl rfl rfl rfl (c28 s i g28 hs4 _ hbeg) rfl ?_
      refine oB 1 rfl ?_;refine Y9 rfl rfl ?_;refine eSG (oA 1 rfl ?_);refine oD ?_;refine oB 2 rfl ?_;exact F7 ⟨_,_,_,rfl,rfl,rfl,.err 10 i,Ends.a0s s hR ⟨_,.refl _,by rw[c5r hi0 g28 hbeg],fun z hz=>(by cases hz)⟩,rfl⟩
    refine L9 rfl rfl rfl rfl rfl (c28 s i g28 hs4 _ hbeg) rfl ?_;refine oB 1 rfl ?_;refine a0r rfl rfl ?_;refine H6 (E8 (eSG (oB 3 rfl ?_)));refine O6 rfl (fun g39=>?_) (fun g39=>?_)
    · replace g39:toks.length=3000:=by simp only[eqB,beq_iff_eq]at g39;omega
      refine eSG (oA 1 rfl ?_);refine oD ?_;refine oB 2 rfl ?_;exact F7 ⟨_,_,_,rfl,rfl,rfl,.err 2 i,Ends.a0s s hR ⟨_,.refl _,by rw[c6A hi0 g28 hbeg g39],fun z hz=>(by cases hz)⟩,rfl⟩
    replace g39:toks.length<3000:=by simp only[eqB,beq_eq_false_iff_ne,ne_eq]at g39;omega
    refine H6 ?_;refine a3V (f:=34) [42,43,44,45,46,47,48,49,50,51,52,53,54,55,56,57] (fun(x:Bool) fr=>(9,.bool x)::fr) (fun x=>x=closes (s.getD i 0).toNat st) zKr rSp ?_ ?_
    · refine A7 (oA 3 rfl ?_)
      refine J3 rfl rfl rfl (fun g44=>?_) (fun g44=>?_)
      · refine oA 2 rfl ?_
        refine o7 rfl rfl (a0M (W9 zOm) rfl) ?_;refine oA 3 rfl ?_;refine J3 rfl rfl rfl (fun g50=>?_) (fun g50=>?_)
        · refine oA 2 rfl ?_
          obtain⟨q,p,st',rfl⟩:=b5Z g44;have hsl:List.length ((q,p)::st')=st'.length+1:=rfl;refine o7 rfl rfl (b9z zOm zOm) ?_;refine o7 rfl rfl (a0M (W9 zOm) rfl) ?_;refine a0P rfl rfl rfl (ldG (k:=st'.length) rfl (c6f q p st' jp)) ?_;refine oB 3 rfl ?_;refine⟨?_,?_,?_,rfl⟩;rotate_left 2
          · exact oFA
          exact(closesA (q:=q) (st:=st') g50).symm
        refine oB 8 rfl ?_;refine⟨?_,?_,?_,rfl⟩;rotate_left 2
        · exact oFA
        exact(closesB g50).symm
      refine oB 14 rfl ?_;refine⟨?_,?_,?_,rfl⟩;rotate_left 2
      · exact oFA
      exact(closesC g44).symm
    intro x hx;show Ev _ _ _ _ _ ((9,V.bool x)::_) _ _;refine E8 ?_;refine a3V (f:=34) [58,59,60,61,62,63] (fun(x:Bool) fr=>(64,.bool x)::fr) (fun y=>y =(x||decide ((s.getD i 0).toNat=34))) zKr rSp ?_ ?_
    · refine A7 (oA 2 rfl ?_)
      refine J3 rfl rfl rfl (fun g59=>?_) (fun g59=>?_)
      · refine oB 5 rfl ?_
        refine⟨?_,?_,?_,rfl⟩;rotate_left 2
        · exact oFA
        rw[show x=true from g59];rfl
      refine oA 2 rfl ?_;refine o7 rfl rfl (a0M (W9 zOm) rfl) ?_;refine oB 2 rfl ?_;refine⟨?_,?_,?_,rfl⟩;rotate_left 2
      · exact oFA
      rw[show x=false from g59,Bool.false_or];simp only[eqB,Int.toNat_natCast];rw[Bool.eq_iff_iff];simp;omega
    intro y hy;show Ev _ _ _ _ _ ((64,V.bool y)::_) _ _;refine O6 rfl (fun g64=>?_) (fun g64=>?_)
    · refine eSG (oB 6 rfl ?_)
      refine a3V (f:=34) [67,68,69,70,71,72,73,74] (fun(z:QS) fr=>(10,.i (z.q:Nat)) ::(11,.i (z.st.length:Nat)) ::(12,.i z.last) ::(13,.i z.more)::fr) (fun z=>stepM s ⟨i0,toks,st⟩=a5Q toks z.st z.q i z.last z.more (part s z.q z.st.length (i+1) [])/\(z.st=st ∨ ∃y,st=y::z.st)) zKr rSp ?_ ?_
      · refine eSG (oB 1 rfl ?_)
        refine O6 rfl (fun g67=>?_) (fun g67=>?_)
        · have hc:closes (s.getD i 0).toNat st=true:=by rw[<-hx];exact g67
          obtain⟨q,p,st',rfl⟩:=b5Z (c5s hc);have hsl:List.length ((q,p)::st')=st'.length+1:=rfl;obtain⟨rfl,hst⟩:=a7n (toks:=toks) hi0 g28 hc;refine A7 (oA 2 rfl ?_);refine o7 rfl rfl (b9z zOm zOm) ?_;refine o7 rfl rfl (a0M (W9 zOm) rfl) ?_;refine a0P rfl rfl rfl (ldG (k:=st'.length) rfl (qL_top q 0 st' jq)) ?_;refine oA 1 rfl ?_;refine o7 rfl rfl (b9z zOm zOm) ?_;refine oB 4 rfl ?_;refine⟨⟨q,st',7,6⟩,?_,?_,rfl⟩;rotate_left 1
          · exact oFA
          exact⟨by rw[hst,b1B (by simp only[leB,decide_eq_false_iff_not];omega)],.inr ⟨_,rfl⟩⟩
        have hq:(s.getD i 0).toNat=34:=by
          rw[g64,show x=false from g67,Bool.false_or]at hy;exact of_decide_eq_true hy.symm
        have hst:=a8U (toks:=toks) hi0 g28 (by rw[<-hx];exact g67) hq;refine H6 ?_;refine⟨⟨i,st,4,5⟩,?_,?_,rfl⟩;rotate_left 1
        · exact oFA
        exact⟨by rw[hst,b1B (by simp only[leB,decide_eq_false_iff_not];omega)],.inl rfl⟩
      intro z ⟨hst,hz⟩;show Ev _ _ _ _ _ ((10,V.i (z.q:Nat)) ::(11,.i (z.st.length:Nat)) ::(12,.i z.last) ::(13,.i z.more)::_) _ _;have hzl:z.st.length<=st.length:=sub_len hz;have hsub:∀y∈z.st,y∈st:=sub_mem hz;obtain⟨jq',jp',hjq,hjp⟩:=sub_qp hz jq jp;rw[hjq,hjp];refine eSG (oA 3 rfl ?_);refine o7 rfl rfl (add1 zOm) ?_;refine oA 1 rfl ?_;have h29:=c29 s z.q (i+1) z.st.length zOm zOm;have hok:=c1X s z.q z.st.length (i+1) [];rcases hp:part s z.q z.st.length (i+1) []with⟨c,a⟩ |⟨t,en⟩ |⟨t,en⟩
      · rw[hp]at h29 hok hst
        refine L9 rfl rfl rfl rfl rfl (h29) rfl ?_;refine oB 7 rfl (E8 (eSG (oB 3 rfl ?_)));refine Y9 rfl (neq_err hok) ?_;refine eSG (oB 3 rfl ?_);exact F7 ⟨_,_,_,rfl,rfl,rfl,.err c a,Ends.a0s s hR ⟨_,.refl _,by rw[hst];rfl,fun z hz=>(by cases hz)⟩,rfl⟩
      · rw[hp]at h29 hok hst
        have hok1:i+1<en:=hok.1;have hok2:en<=s.length:=hok.2;refine L9 rfl rfl rfl rfl rfl (h29) rfl ?_;refine oB 7 rfl (E8 (eSG (oB 3 rfl ?_)));refine a0r rfl (c5X) ?_;refine H6 (eSG (oB 2 rfl (eSG (oA 2 rfl ?_))));refine o7 rfl rfl (a0M (a6X (a:=0) (Nat.zero_le _) hzl) rfl) ?_;refine oA 2 rfl ?_;refine o7 rfl rfl (a0M (a6X (a:=0) (Nat.zero_le _) hzl) rfl) ?_;refine oB 2 rfl (E8 (eSG (oB 2 rfl ?_)));refine a0r rfl (rfl) ?_;refine H6 (eSG (oA 8 rfl ?_));refine o7 rfl rfl (subN zOm zOm) ?_;refine oD ?_;refine oA 1 rfl ?_;refine a3I rfl rfl rfl rfl rfl rfl rfl rfl rfl rfl rfl (a9G (a2d rfl) rfl) rfl rfl he rfl (a6c toks).symm (by show(toks.length+1)*41<=_;omega) (b1i toks ⟨z.last,t,i,en-i⟩) (a6W toks ⟨z.last,t,i,en-i⟩).symm rfl ?_;refine oB 1 rfl (eSG (oA 3 rfl ?_));refine L9 rfl rfl rfl rfl rfl (c27 s en zOm hs4) rfl ?_;refine oB 1 rfl ?_;refine a2k ?_;exact⟨_,_,rfl,ih ⟨en,a0K s (en),toks++[(⟨z.last,t,i,en-i⟩:Tok)],z.st,jq',jp',4⟩ (by show s.length-a0K s (en)<s.length-i;have:=b0f (s:=s) (i:=en);omega) ⟨rfl,b0g zOm,by show List.length (toks++[_])<=3000;rw[List.length_append];show toks.length+1<=3000;omega,by show List.length (z.st)<=List.length (toks++[_]);rw[List.length_append];show _<=toks.length+1;omega,.inr rfl,fun y hy=>⟨by have:=(hbd y (hsub y hy)).1;show -((en:Nat):Int)<=_;omega,by have:=(hbd y (hsub y hy)).2;show _ <=((en:Nat):Int);omega⟩,hR.trans s (Reach.one s (by rw[hst];rfl))⟩⟩
      rw[hp]at h29 hok hst;have hok1:i+1<en:=hok.1;have hok2:en<=s.length:=hok.2;refine L9 rfl rfl rfl rfl rfl (h29) rfl ?_;refine oB 7 rfl (E8 (eSG (oB 3 rfl ?_)));refine a0r rfl (c5X) ?_;refine H6 (eSG (oB 2 rfl (eSG (oA 2 rfl ?_))));refine o7 rfl rfl (a0M (a6X (a:=0) (Nat.zero_le _) hzl) rfl) ?_;refine oA 2 rfl ?_;refine o7 rfl rfl (a0M (a6X (a:=0) (Nat.zero_le _) hzl) rfl) ?_;refine oB 2 rfl (E8 (eSG (oB 2 rfl ?_)));refine Y9 rfl (rfl) ?_;refine eSG (oB 2 rfl (A7 (oA 3 rfl ?_)));refine b80 rfl rfl rfl rfl rfl rfl rfl rfl rfl rfl rfl (a9G (a2d rfl) rfl) rfl rfl rfl rfl rfl (by show z.st.length*1 <=(qL z.st++jq').length;rw[List.length_append,c2j];omega) (by show(z.st.length+1)*9<=_;omega) (show(qL z.st++jq').take (z.st.length*1)++[V.i (z.q:Int)]=qL ((z.q,0)::z.st)++[]from qL_push z.q z.st jq') rfl ?_;refine oA 2 rfl ?_;refine b80 rfl rfl rfl rfl rfl rfl rfl rfl rfl rfl rfl (a9G (a2d rfl) rfl) rfl rfl rfl rfl rfl (by show z.st.length*1 <=(pL z.st++jp').length;rw[List.length_append,b0O];omega) (by show(z.st.length+1)*9<=_;omega) (show(pL z.st++jp').take (z.st.length*1)++[V.i 0]=pL ((z.q,0)::z.st)++[]from pL_push z.q z.st jp') rfl ?_;refine oB 2 rfl (eSG (oA 8 rfl ?_));refine o7 rfl rfl (subN zOm zOm) ?_;refine oD ?_;refine oA 1 rfl ?_;refine a3I rfl rfl rfl rfl rfl rfl rfl rfl rfl rfl rfl (a9G (a2d rfl) rfl) rfl rfl he rfl (a6c toks).symm (by show(toks.length+1)*41<=_;omega) (b1i toks ⟨z.more,t,i,en-i⟩) (a6W toks ⟨z.more,t,i,en-i⟩).symm rfl ?_;refine oB 1 rfl (eSG (oA 3 rfl ?_));refine L9 rfl rfl rfl rfl rfl (c27 s en zOm hs4) rfl ?_;refine oB 1 rfl ?_;refine a2k ?_;exact⟨_,_,rfl,ih ⟨en,a0K s (en),toks++[(⟨z.more,t,i,en-i⟩:Tok)],(z.q,0)::z.st,[],[],4⟩ (by show s.length-a0K s (en)<s.length-i;have:=b0f (s:=s) (i:=en);omega) ⟨rfl,b0g zOm,by show List.length (toks++[_])<=3000;rw[List.length_append];show toks.length+1<=3000;omega,by show List.length ((z.q,0)::z.st)<=List.length (toks++[_]);rw[List.length_append];show _<=toks.length+1;show z.st.length+1<=_;omega,.inr rfl,fun y hy=>by
        rcases List.mem_cons.1 hy with rfl|hy
        · exact⟨by show -((en:Nat):Int)<=0;omega,by show 0 <=((en:Nat):Int);omega⟩
        exact⟨by have:=(hbd y (hsub y hy)).1;show -((en:Nat):Int)<=_;omega,by have:=(hbd y (hsub y hy)).2;show _ <=((en:Nat):Int);omega⟩,hR.trans s (Reach.one s (by rw[hst];rfl))⟩⟩
    have hxf:x=false/\(s.getD i 0).toNat≠34:=by
      rw[g64]at hy;have hy2:=hy.symm;simp only[Bool.or_eq_false_iff,decide_eq_false_iff_not]at hy2;exact hy2
    have hc:closes (s.getD i 0).toNat st=false:=by rw[<-hx];exact hxf.1
    refine H6 (eSG (oA 2 rfl ?_));have h30:=c30 s i g28 hs4;rcases c8W (toks:=toks) hi0 g28 hc hxf.2 hbeg g39 with⟨c,hc0,hv,hst⟩ |⟨t,hv,htl,hte,hst⟩
    · rw[hv]at h30
      refine L9 rfl rfl rfl rfl rfl (h30) rfl ?_;refine oB 7 rfl (E8 (eSG (oB 3 rfl ?_)));refine Y9 rfl (neq_no hc0) ?_;refine eSG (oB 3 rfl ?_);exact F7 ⟨_,_,_,rfl,rfl,rfl,.err c i,Ends.a0s s hR ⟨_,.refl _,by exact hst,fun z hz=>(by cases hz)⟩,rfl⟩
    rw[hv]at h30;refine L9 rfl rfl rfl rfl rfl (h30) rfl ?_;refine oB 7 rfl (E8 (eSG (oB 3 rfl ?_)));refine a0r rfl (c5X) ?_;refine H6 (E8 ?_);refine a3V (f:=34) [131,132,133,134,135,136,137,138,139,140,141] (fun(x:Bool) fr=>(142,.bool x)::fr) (fun u=>u =(decide (0<st.length)&&decide (t.k=8)&&decide (t.t=[40]))) zKr rSp ?_ ?_
    · refine A7 (oA 3 rfl ?_)
      refine J3 rfl rfl rfl (fun g133=>?_) (fun g133=>?_)
      · refine oA 5 rfl ?_
        refine J3 rfl rfl rfl (fun g138=>?_) (fun g138=>?_)
        · refine oB 4 rfl ?_
          refine⟨?_,?_,?_,rfl⟩;rotate_left 2
          · exact oFA
          exact andA g133 g138
        refine oB 4 rfl ?_;refine⟨?_,?_,?_,rfl⟩;rotate_left 2
        · exact oFA
        exact andB g138
      refine oB 9 rfl ?_;refine⟨?_,?_,?_,rfl⟩;rotate_left 2
      · exact oFA
      exact andC g133
    intro u hu;show Ev _ _ _ _ _ ((142,V.bool u)::_) _ _;refine O6 rfl (fun g142=>?_) (fun g142=>?_)
    · obtain ⟨hu1,hu2,hu3⟩:0 < st.length /\ t.k = 8 /\ t.t = [40]:=by
        rw[g142]at hu;have hu':=hu.symm;simp only[Bool.and_eq_true,decide_eq_true_eq]at hu';exact⟨hu'.1.1,hu'.1.2,hu'.2⟩
      obtain⟨q,p,st',rfl⟩:=b5Z (st:=st) (by simp only[ltB,decide_eq_true_eq];omega);have hsl:List.length ((q,p)::st')=st'.length+1:=rfl;refine A7 (oA 2 rfl ?_);refine o7 rfl rfl (b9z zOm zOm) ?_;refine o7 rfl rfl (a0M (W9 zOm) rfl) ?_;refine a0P rfl rfl rfl (ldG (k:=st'.length) rfl (c6f q p st' jp)) ?_;have hbp:=hbd (q,p) (List.mem_cons_self ..);simp only at hbp;refine o7 rfl rfl (c06 zOm zOm) ?_;refine o7 rfl rfl (a0M (W9 zOm) rfl) ?_;rw[show qL ((q,p)::st')=qL ((q,p+1)::st')by rw[b2f,b2f]];refine c3R rfl rfl rfl rfl (stG2 (cs:=pL ((q,p)::st')++jp) (k:=st'.length) rfl (by rw[List.length_append,b0O];omega) (pL_set q p (p+1) st' jp) rfl) ?_;refine I4 (E8 ?_);refine a3V (f:=34) [150,151,152,153,154,155,156,157,158,159,160] (fun(x:Bool) fr=>(161,.bool x)::fr) (fun w=>w =(decide (0<List.length ((q,p)::st'))&&decide (t.k=8)&&decide (t.t=[41]))) zKr rSp ?_ ?_
      · refine A7 (oA 3 rfl ?_)
        refine J3 rfl rfl rfl (fun g152=>?_) (fun g152=>?_)
        · refine oA 5 rfl ?_
          refine J3 rfl rfl rfl (fun g157=>?_) (fun g157=>?_)
          · refine oB 4 rfl ?_
            refine⟨?_,?_,?_,rfl⟩;rotate_left 2
            · exact oFA
            exact andA g152 g157
          refine oB 4 rfl ?_;refine⟨?_,?_,?_,rfl⟩;rotate_left 2
          · exact oFA
          exact andB g157
        refine oB 9 rfl ?_;refine⟨?_,?_,?_,rfl⟩;rotate_left 2
        · exact oFA
        exact andC g152
      intro w hw;show Ev _ _ _ _ _ ((161,V.bool w)::_) _ _;refine a0r rfl (by rw[hw,hu3];simp) ?_;refine H6 (eSG (oA 3 rfl ?_));refine a3I rfl rfl rfl rfl rfl rfl rfl rfl rfl rfl rfl (a9G (a2d rfl) rfl) rfl rfl he rfl (a6c toks).symm (by show(toks.length+1)*41<=_;omega) (b1i toks t) (a6W toks t).symm rfl ?_;refine oB 1 rfl (A7 (oA 4 rfl ?_));refine o7 rfl rfl (addN zOm) ?_;refine L9 rfl rfl rfl rfl rfl (c27 s (i+t.l) zOm hs4) rfl ?_;refine oB 1 rfl ?_;exact⟨_,_,rfl,ih ⟨i+t.l,a0K s (i+t.l),toks++[(t:Tok)],(q,p+1)::st',jq,jp,4⟩ (by show s.length-a0K s (i+t.l)<s.length-i;have:=b0f (s:=s) (i:=i+t.l);omega) ⟨rfl,b0g zOm,by show List.length (toks++[_])<=3000;rw[List.length_append];show toks.length+1<=3000;omega,by show List.length ((q,p+1)::st')<=List.length (toks++[_]);rw[List.length_append];show _<=toks.length+1;show st'.length+1<=_;omega,.inr rfl,fun y hy=>by
        rcases List.mem_cons.1 hy with rfl|hy
        · have:=hbd (q,p) (List.mem_cons_self ..);simp only at this;exact⟨by show -((i+t.l:Nat):Int)<=p+1;omega,by show p+1 <=((i+t.l:Nat):Int);omega⟩
        have:=hbd y (List.mem_cons_of_mem _ hy);exact⟨by show -((i+t.l:Nat):Int)<=_;omega,by show _ <=((i+t.l:Nat):Int);omega⟩,hR.trans s (Reach.one s (by rw[hst];simp only[hu2,hu3,decide_true];rfl))⟩⟩
    rw[g142]at hu;refine H6 (E8 ?_);refine a3V (f:=34) [150,151,152,153,154,155,156,157,158,159,160] (fun(x:Bool) fr=>(161,.bool x)::fr) (fun w=>w =(decide (0<st.length)&&decide (t.k=8)&&decide (t.t=[41]))) zKr rSp ?_ ?_
    · refine A7 (oA 3 rfl ?_)
      refine J3 rfl rfl rfl (fun g152=>?_) (fun g152=>?_)
      · refine oA 5 rfl ?_
        refine J3 rfl rfl rfl (fun g157=>?_) (fun g157=>?_)
        · refine oB 4 rfl ?_
          refine⟨?_,?_,?_,rfl⟩;rotate_left 2
          · exact oFA
          exact andA g152 g157
        refine oB 4 rfl ?_;refine⟨?_,?_,?_,rfl⟩;rotate_left 2
        · exact oFA
        exact andB g157
      refine oB 9 rfl ?_;refine⟨?_,?_,?_,rfl⟩;rotate_left 2
      · exact oFA
      exact andC g152
    intro w hw;show Ev _ _ _ _ _ ((161,V.bool w)::_) _ _;refine O6 rfl (fun g161=>?_) (fun g161=>?_)
    · obtain ⟨hw1,hw2,hw3⟩:0 < st.length /\ t.k = 8 /\ t.t = [41]:=by
        rw[g161]at hw;have hw':=hw.symm;simp only[Bool.and_eq_true,decide_eq_true_eq]at hw';exact⟨hw'.1.1,hw'.1.2,hw'.2⟩
      obtain⟨q,p,st',rfl⟩:=b5Z (st:=st) (by simp only[ltB,decide_eq_true_eq];omega);have hsl:List.length ((q,p)::st')=st'.length+1:=rfl;refine A7 (oA 2 rfl ?_);refine o7 rfl rfl (b9z zOm zOm) ?_;refine o7 rfl rfl (a0M (W9 zOm) rfl) ?_;refine a0P rfl rfl rfl (ldG (k:=st'.length) rfl (c6f q p st' jp)) ?_;have hbp:=hbd (q,p) (List.mem_cons_self ..);simp only at hbp;refine o7 rfl rfl (c06 zOm zOm) ?_;refine o7 rfl rfl (a0M (W9 zOm) rfl) ?_;rw[show qL ((q,p)::st')=qL ((q,p-1)::st')by rw[b2f,b2f]];refine c3R rfl rfl rfl rfl (stG2 (cs:=pL ((q,p)::st')++jp) (k:=st'.length) rfl (by rw[List.length_append,b0O];omega) (pL_set q p (p-1) st' jp) rfl) ?_;refine I4 (eSG (oA 3 rfl ?_));refine a3I rfl rfl rfl rfl rfl rfl rfl rfl rfl rfl rfl (a9G (a2d rfl) rfl) rfl rfl he rfl (a6c toks).symm (by show(toks.length+1)*41<=_;omega) (b1i toks t) (a6W toks t).symm rfl ?_;refine oB 1 rfl (A7 (oA 4 rfl ?_));refine o7 rfl rfl (addN zOm) ?_;refine L9 rfl rfl rfl rfl rfl (c27 s (i+t.l) zOm hs4) rfl ?_;refine oB 1 rfl ?_;exact⟨_,_,rfl,ih ⟨i+t.l,a0K s (i+t.l),toks++[(t:Tok)],(q,p-1)::st',jq,jp,4⟩ (by show s.length-a0K s (i+t.l)<s.length-i;have:=b0f (s:=s) (i:=i+t.l);omega) ⟨rfl,b0g zOm,by show List.length (toks++[_])<=3000;rw[List.length_append];show toks.length+1<=3000;omega,by show List.length ((q,p-1)::st')<=List.length (toks++[_]);rw[List.length_append];show _<=toks.length+1;show st'.length+1<=_;omega,.inr rfl,fun y hy=>by
        rcases List.mem_cons.1 hy with rfl|hy
        · have:=hbd (q,p) (List.mem_cons_self ..);simp only at this;exact⟨by show -((i+t.l:Nat):Int)<=p-1;omega,by show p-1 <=((i+t.l:Nat):Int);omega⟩
        have:=hbd y (List.mem_cons_of_mem _ hy);exact⟨by show -((i+t.l:Nat):Int)<=_;omega,by show _ <=((i+t.l:Nat):Int);omega⟩,hR.trans s (Reach.one s (by rw[hst];simp only[hw2,hw3,decide_true];rfl))⟩⟩
    rw[g161]at hw;refine H6 (eSG (oA 3 rfl ?_));refine a3I rfl rfl rfl rfl rfl rfl rfl rfl rfl rfl rfl (a9G (a2d rfl) rfl) rfl rfl he rfl (a6c toks).symm (by show(toks.length+1)*41<=_;omega) (b1i toks t) (a6W toks t).symm rfl ?_;refine oB 1 rfl (A7 (oA 4 rfl ?_));refine o7 rfl rfl (addN zOm) ?_;refine L9 rfl rfl rfl rfl rfl (c27 s (i+t.l) zOm hs4) rfl ?_;refine oB 1 rfl ?_;exact⟨_,_,rfl,ih ⟨i+t.l,a0K s (i+t.l),toks++[(t:Tok)],st,jq,jp,4⟩ (by show s.length-a0K s (i+t.l)<s.length-i;have:=b0f (s:=s) (i:=i+t.l);omega) ⟨rfl,b0g zOm,by show List.length (toks++[_])<=3000;rw[List.length_append];show toks.length+1<=3000;omega,by show List.length (st)<=List.length (toks++[_]);rw[List.length_append];show _<=toks.length+1;omega,.inr rfl,fun y hy=>by have:=hbd y hy;exact⟨by show -((i+t.l:Nat):Int)<=_;omega,by show _ <=((i+t.l:Nat):Int);omega⟩,hR.trans s (Reach.one s (by rw[hst];exact congrArg (fun x=>MR.go ⟨i+t.l,toks++[t],x⟩) (bump_no (by rw[<-hu]) (by rw[<-hw]))))⟩⟩
  replace g28:s.length<=i:=by simpa [ltN]using g28
  refine a2k ?_;refine E8 (eSG (oB 3 rfl ?_));refine O6 rfl (fun g181=>?_) (fun g181=>?_)
  · obtain⟨q,p,st',rfl⟩:=b5Z g181
    have hsl:List.length ((q,p)::st')=st'.length+1:=rfl;refine eSG (oA 3 rfl ?_);refine o7 rfl rfl (b9z zOm zOm) ?_;refine o7 rfl rfl (a0M (W9 zOm) rfl) ?_;refine a0P rfl rfl rfl (ldG (k:=st'.length) rfl (qL_top q p st' jq)) ?_;refine oD ?_;refine oB 2 rfl ?_;exact F7 ⟨_,_,_,rfl,rfl,rfl,.err 11 q,Ends.a0s s hR ⟨_,.refl _,by rw[a8T hi0 g28],fun z hz=>(by cases hz)⟩,rfl⟩
  refine H6 (eSG (oA 1 rfl ?_));refine oD ?_;refine oB 2 rfl ?_;obtain rfl:st=[]:=by
    cases st with
    | nil=>rfl
    | cons x st=>simp only[ltB,List.length_cons,decide_eq_false_iff_not]at g181;omega
  exact F7 ⟨_,_,_,rfl,rfl,rfl,.done toks,Ends.a0s s hR ⟨_,.refl _,a8S hi0 g28,fun z hz=>(by cases hz)⟩,rfl⟩
theorem c12 (h0:s.length<=8000):∃r,Ends s ⟨0,[],[]⟩ r/\E env (.call 34 [.str s]) []=some (.ret (b3z r) []):=by
 obtain⟨v,H2,h1,rfl,r,h2,rfl⟩:=c12P h0;exact⟨r,h2,h1⟩
theorem c12big (h0:8000<s.length):E env (.call 34 [.str s]) []=some (.ret (b3z (.err 2 0)) []):=by
 refine U3 rfl Tryz.func34 rfl rfl ?_;refine eSG (oB 2 rfl (E8 (eSG (oB 3 rfl ?_))));refine O6 rfl (fun g21=>?_) (fun g21=>?_)
 ·refine eSG ?_;refine oD ?_;refine oB 2 rfl ?_;exact F7 ⟨_,rfl,rfl⟩
 exfalso;simp only[ltB,decide_eq_false_iff_not]at g21;omega
end Go.Proofs.YtimgnjbjbdgmaaaGreatDoor.Sc
