/- Texts of ParseValid, joined. -/
import Derived.Test.YtimgnjbjbdgmaaaGreatDoorParseValidJ4
set_option maxRecDepth 100000
set_option maxHeartbeats 20000000
set_option linter.all false
namespace Go.Proofs.YtimgnjbjbdgmaaaGreatDoor.Sc
open Go Go.Vm
variable {p:Int} {b nest:Nat}
theorem join8A (h3:ltB 0 (nest:Nat)=true)(h4:eqB p 0=true):(decide (0<nest)&&decide (p=0)&&decide (b=41))=eqB (b:Int) 41:=by
 simp only[ltB,eqB,decide_eq_true_eq,beq_iff_eq]at h3 h4 ⊢;rw[decide_eq_true (show 0<nest by omega),decide_eq_true h4,Bool.eq_iff_iff];simp;omega
theorem join8B (h4:eqB p 0=false):(decide (0<nest)&&decide (p=0)&&decide (b=41))=false:=by
 simp only[eqB,beq_eq_false_iff_ne,ne_eq]at h4;rw[decide_eq_false h4];simp
theorem join8C (h3:ltB 0 (nest:Nat)=false):(decide (0<nest)&&decide (p=0)&&decide (b=41))=false:=by
 simp only[ltB,decide_eq_false_iff_not]at h3;rw[decide_eq_false (show ¬0<nest by omega)];simp
theorem c26 {s:List UInt8}(hs:s.length<=100000){opn:Nat}{base:Int->List (Nat×Int)}(hb:b7S nest opn base)(hlit:b7T s nest):AllP s nest opn base:=by
 intro i toks c a e hi ht he;obtain⟨X0,hX0⟩:∃X0,X0 =(⟨i,toks,base 0⟩:MS):=⟨_,rfl⟩
 rw[<-hX0];refine b3I rfl Tryz.func85 rfl rfl ?_;refine eSG (oB 1 rfl (eSG (oB 1 rfl ?_)));refine M8 ?_;refine a4M rfl ?_;refine a6N (fun x:AS=>[(0,.ptr 0 0),(1,.i nest),(2,.i opn),(7,.i x.p)])
  (fun x=>scE s x.j x.toks c a x.e)
  (fun x=>x.j<=s.length/\i<=x.j/\x.toks.length<=3000/\(x.e=0∨x.e=4) /\ - (x.j:Int)<=x.p/\x.p<=x.j/\Reach s X0 ⟨x.j,x.toks,base x.p⟩)
  (fun x=>s.length-x.j) ⟨i,0,toks,e⟩ ⟨hi,Nat.le_refl _,ht,he,by show -(i:Int)<=0;omega,by show(0:Int)<=i;omega,by rw[hX0];exact .refl _⟩ ?_
 intro⟨i0,p,toks,e⟩ ⟨hi0,hii,ht,he,hp1,hp2,hR⟩ ih;simp only at hi0 hii ht he hp1 hp2 hR ih;show Ev _ _ _ _ _ [(0,.ptr 0 0),(1,.i nest),(2,.i opn),(7,.i p)] [(0,.row [.str s,.i i0,.slice (.tag 1) toks.length (a4v toks),.i c,.i a]),(1,.tip e toks.length)] _;obtain⟨j,hj⟩:∃j,a0K s i0=j:=⟨_,rfl⟩
 have hjl:j<=s.length:=by rw[<-hj];exact b0g hi0
 have hji:i0<=j:=by rw[<-hj];exact b0f
 have h36:=c36 s i0 toks.length (a4v toks) c a e hi0 zOm;rw[hj]at h36;refine M8 ?_;refine eSG (oA 3 rfl ?_);refine oV (h36) ?_;refine I4 (E8 (eSG (oA 3 rfl ?_)));refine oV (c37 ..) ?_;refine I4 ?_;refine O6 rfl (fun h1=>?_) (fun h1=>?_)
 ·replace h1:s.length<=j:=by simpa [leN_]using h1
  refine E8 (eSG (oB 2 rfl ?_));refine O6 rfl (fun h2=>?_) (fun h2=>?_)
  ·replace h2:0<nest:=by simp only[ltB,decide_eq_true_eq]at h2;omega
   refine eSG (oA 2 rfl ?_);refine oV (c38 ..) ?_;refine oB 1 rfl ?_;rcases hb with⟨g1,g2⟩ |⟨st,g1,g2⟩
   ·omega
   exact F7 ⟨_,_,_,rfl,rfl,.inr ⟨rfl,11,opn,_,_,_,_,rfl,Ends.a0s s hR ⟨_,.refl _,by rw[g2,a8T hj h1],fun z hz=>(by cases hz)⟩⟩⟩
  replace h2:nest=0:=by simp only[ltB,decide_eq_false_iff_not]at h2;omega
  refine H6 (eSG (oB 1 rfl ?_));rcases hb with⟨g1,g2⟩ |⟨st,g1,g2⟩
  ·exact F7 ⟨_,_,_,rfl,rfl,.inl ⟨rfl,j,toks,e,rfl,he,hjl,ht,zOm,.inl ⟨h2,Ends.a0s s hR ⟨_,.refl _,by rw[g2,a8S hj h1],fun z hz=>(by cases hz)⟩⟩⟩⟩
  omega
 replace h1:j<s.length:=by simpa [leN_]using h1
 refine H6 (eSG (oA 10 rfl ?_));refine o7 rfl rfl (a0M (W9 zOm) rfl) ?_;refine oB 1 rfl (E8 ?_);refine a3V (f:=85) [36,37,38,39,40,41,42,43,44] (fun(x:Bool) fr=>(45,.bool x)::fr) (fun x=>x =(decide (0<nest)&&decide (p=0)&&decide ((s.getD j 0).toNat=41))) zKr rSp ?_ ?_
 ·refine A7 (oA 3 rfl ?_);refine J3 rfl rfl rfl (fun h3=>?_) (fun h3=>?_)
  ·refine oA 4 rfl ?_;refine J3 rfl rfl rfl (fun h4=>?_) (fun h4=>?_)
   ·refine oB 3 rfl ?_;refine⟨?_,?_,?_,rfl⟩;rotate_left 2
    ·(repeat(first|exact Off.refl|refine Off.both ?_|refine Off.right rfl ?_|refine Off.noop rfl ?_))
    exact(join8A h3 h4).symm
   refine oB 3 rfl ?_;refine⟨?_,?_,?_,rfl⟩;rotate_left 2
   ·(repeat(first|exact Off.refl|refine Off.both ?_|refine Off.right rfl ?_|refine Off.noop rfl ?_))
   exact(join8B h4).symm
  refine oB 7 rfl ?_;refine⟨?_,?_,?_,rfl⟩;rotate_left 2
  ·(repeat(first|exact Off.refl|refine Off.both ?_|refine Off.right rfl ?_|refine Off.noop rfl ?_))
  exact(join8C h3).symm
 intro x hx;show Ev _ _ _ _ _ ((45,V.bool x)::_) _ _;refine O6 rfl (fun h5=>?_) (fun h5=>?_)
 ·rw[h5]at hx;have hx2:=hx.symm;simp only[Bool.and_eq_true,decide_eq_true_eq]at hx2;obtain⟨⟨g1,g2⟩,g3⟩:=hx2;subst g2;refine eSG (oB 1 rfl ?_);exact F7 ⟨_,_,_,rfl,rfl,.inl ⟨rfl,j,toks,e,rfl,he,hjl,ht,zOm,.inr ⟨g1,h1,g3,i0,hR,hj⟩⟩⟩
 have hc':closes (s.getD j 0).toNat (base p)=false:=by rw[hb.closes,<-hx];exact h5
 refine H6 (eSG (oB 1 rfl (E8 ?_)));refine M8 ?_;refine eSG (oB 3 rfl ?_);refine O6 rfl (fun h6=>?_) (fun h6=>?_)
 ·replace h6:(s.getD j 0).toNat=34:=by simp only[eqB,Int.toNat_natCast,beq_iff_eq]at h6;omega
  refine A7 (oA 1 rfl ?_);cases hrm:leB 3000 (toks.length:Nat)
  ·have hrl:toks.length<3000:=by simp only[leB,decide_eq_false_iff_not]at hrm;omega
   refine oV (c39F s _ toks c a _ hrm) ?_;refine oA 3 rfl ?_;obtain⟨v1,H1,hE,hP⟩:=hlit j i0 toks (base p) c a e hj h1 h6 hrl he (hb.len p);rcases hP with⟨rfl,i',toks2,e2,rfl,he2,hi2,ht2,hi3,hR2⟩ |⟨rfl,c',a',i',n',tc',e',rfl,hQ⟩
   ·refine oV (hE) ?_;refine oB 2 rfl (eSG (oB 2 rfl ?_));refine a0r rfl rfl ?_;refine H6 ?_;exact⟨_,_,rfl,ih ⟨i',p,toks2,e2⟩ (by show s.length-(i')<s.length-i0;omega) ⟨by show i'<=s.length;omega,by show i<=i';omega,by show List.length (toks2)<=3000;omega,he2,by show -((i':Nat):Int)<=p;omega,by show p <=((i':Nat):Int);omega,hR.trans s hR2⟩⟩
   refine oV (hE) ?_;refine oB 2 rfl (eSG (oB 2 rfl ?_));refine Y9 rfl rfl ?_;refine eSG (oB 1 rfl ?_);exact F7 ⟨_,_,_,rfl,rfl,.inr ⟨rfl,c',a',_,_,_,_,rfl,Ends.a0s s hR hQ⟩⟩
  refine oV (c39T s _ toks c a _ hrm) ?_;refine oB 6 rfl (eSG (oB 2 rfl ?_));refine Y9 rfl rfl ?_;refine eSG (oB 1 rfl ?_);exact F7 ⟨_,_,_,rfl,rfl,.inr ⟨rfl,2,j,_,_,_,_,rfl,Ends.a0s s hR ⟨_,.refl _,by rw[a8U hj h1 hc' h6,a7L hrm],fun z hz=>(by cases hz)⟩⟩⟩
 replace h6:(s.getD j 0).toNat≠34:=by simp only[eqB,Int.toNat_natCast,beq_eq_false_iff_ne,ne_eq]at h6;omega
 refine eSG (oA 1 rfl ?_);refine L9 rfl rfl rfl rfl rfl (c41 ..) rfl ?_;refine oB 1 rfl ?_;refine O6 rfl (fun h7=>?_) (fun h7=>?_)
 ·simp only[Int.toNat_natCast]at h7;refine A7 (oA 1 rfl ?_);cases hrm:leB 3000 (toks.length:Nat)
  ·have hrl:toks.length<3000:=by simp only[leB,decide_eq_false_iff_not]at hrm;omega
   refine oV (c39F s _ toks c a _ hrm) ?_;refine oA 2 rfl ?_;obtain⟨r,hr⟩:∃r,Z7 O5 s j=r:=⟨_,rfl⟩
   obtain⟨w,hw⟩:∃w,(s.take r).drop j=w:=⟨_,rfl⟩
   have hrg:j<r:=by rw[<-hr];exact a8B h1 h7
   have hrle:r<=s.length:=by rw[<-hr];exact a7m hjl
   have hst:=a6r (toks:=toks) hj h1 hc' h6 h7;rw[hr,hw,b1B hrm]at hst;cases hbad:a0q w (s.getD r 0)
   ·rw[hbad]at hst;refine oV (c42T s j toks c a e hjl zOm he zOm r hr w hw hbad) ?_;refine oB 2 rfl (eSG (oB 2 rfl ?_));refine a0r rfl rfl ?_;refine H6 ?_;exact⟨_,_,rfl,ih ⟨r,p,toks++[(⟨3,w,j,r-j⟩:Tok)],4⟩ (by show s.length-(r)<s.length-i0;omega) ⟨by show r<=s.length;omega,by show i<=r;omega,by show List.length (toks++[(⟨3,w,j,r-j⟩:Tok)])<=3000;simp only[List.length_append,List.length_cons,List.length_nil];omega,.inr rfl,by show -((r:Nat):Int)<=p;omega,by show p <=((r:Nat):Int);omega,hR.trans s (Reach.one s hst)⟩⟩
   rw[hbad]at hst;refine oV (c42 s j toks.length (a4v toks) c a e hjl zOm he zOm (a6c toks) r hr w hw true hbad) ?_;refine oB 2 rfl (eSG (oB 2 rfl ?_));refine Y9 rfl rfl ?_;refine eSG (oB 1 rfl ?_);exact F7 ⟨_,_,_,rfl,rfl,.inr ⟨rfl,13,j,_,_,_,_,rfl,Ends.a0s s hR ⟨_,.refl _,by exact hst,fun z hz=>(by cases hz)⟩⟩⟩
  refine oV (c39T s _ toks c a _ hrm) ?_;refine oB 5 rfl (eSG (oB 2 rfl ?_));refine Y9 rfl rfl ?_;refine eSG (oB 1 rfl ?_);exact F7 ⟨_,_,_,rfl,rfl,.inr ⟨rfl,2,j,_,_,_,_,rfl,Ends.a0s s hR ⟨_,.refl _,by rw[a6r hj h1 hc' h6 h7,a7L hrm],fun z hz=>(by cases hz)⟩⟩⟩
 simp only[Int.toNat_natCast]at h7;refine eSG (oA 1 rfl ?_);refine L9 rfl rfl rfl rfl rfl (c43 ..) rfl ?_;refine oB 1 rfl ?_;refine O6 rfl (fun h8=>?_) (fun h8=>?_)
 ·simp only[Int.toNat_natCast]at h8;refine A7 (oA 1 rfl ?_);cases hrm:leB 3000 (toks.length:Nat)
  ·have hrl:toks.length<3000:=by simp only[leB,decide_eq_false_iff_not]at hrm;omega
   refine oV (c39F s _ toks c a _ hrm) ?_;refine oA 2 rfl ?_;obtain⟨r,hr⟩:∃r,Z7 a0Z s j=r:=⟨_,rfl⟩
   obtain⟨w,hw⟩:∃w,(s.take r).drop j=w:=⟨_,rfl⟩
   have hrg:j<r:=by rw[<-hr];exact a8B h1 (by simp only[a0Z,h8,Bool.true_or])
   have hrle:r<=s.length:=by rw[<-hr];exact a7m hjl
   have hw0:0<w.length:=by rw[<-hw,List.length_drop,List.length_take];omega
   have hst:=a6a (toks:=toks) hj h1 hc' h6 h7 h8;rw[hr,hw,b1B hrm]at hst;cases hbad:ltB 24 (w.length:Nat)
   ·rw[hbad]at hst;refine oV (c44T s j toks c a e hjl zOm he zOm r hr w hw hw0 hbad) ?_;refine oB 2 rfl (eSG (oB 2 rfl ?_));refine a0r rfl rfl ?_;refine H6 ?_;exact⟨_,_,rfl,ih ⟨r,p,toks++[(⟨a6Q w,w,j,r-j⟩:Tok)],4⟩ (by show s.length-(r)<s.length-i0;omega) ⟨by show r<=s.length;omega,by show i<=r;omega,by show List.length (toks++[(⟨a6Q w,w,j,r-j⟩:Tok)])<=3000;simp only[List.length_append,List.length_cons,List.length_nil];omega,.inr rfl,by show -((r:Nat):Int)<=p;omega,by show p <=((r:Nat):Int);omega,hR.trans s (Reach.one s hst)⟩⟩
   rw[hbad]at hst;refine oV (c44 s j toks.length (a4v toks) c a e hjl zOm he zOm (a6c toks) r hr w hw hw0 true hbad) ?_;refine oB 2 rfl (eSG (oB 2 rfl ?_));refine Y9 rfl rfl ?_;refine eSG (oB 1 rfl ?_);exact F7 ⟨_,_,_,rfl,rfl,.inr ⟨rfl,14,j,_,_,_,_,rfl,Ends.a0s s hR ⟨_,.refl _,by exact hst,fun z hz=>(by cases hz)⟩⟩⟩
  refine oV (c39T s _ toks c a _ hrm) ?_;refine oB 5 rfl (eSG (oB 2 rfl ?_));refine Y9 rfl rfl ?_;refine eSG (oB 1 rfl ?_);exact F7 ⟨_,_,_,rfl,rfl,.inr ⟨rfl,2,j,_,_,_,_,rfl,Ends.a0s s hR ⟨_,.refl _,by rw[a6a hj h1 hc' h6 h7 h8,a7L hrm],fun z hz=>(by cases hz)⟩⟩⟩
 simp only[Int.toNat_natCast]at h8;refine eSG (oA 1 rfl ?_);obtain⟨w,hw⟩:∃w,a2J s j 2=w:=⟨_,rfl⟩
 have hwl:=b37 2 hjl;rw[hw]at hwl;have h45:=c45 s j toks.length (a4v toks) c a e hjl zOm w hw;refine oV (h45) ?_;refine oB 1 rfl (E8 (eSG (oB 2 rfl ?_)));refine O6 rfl (fun h9=>?_) (fun h9=>?_)
 ·replace h9:w=[]:=by simpa [eqS]using h9
  refine eSG (oA 6 rfl ?_);refine oV (c38 ..) ?_;refine oB 1 rfl ?_;exact F7 ⟨_,_,_,rfl,rfl,.inr ⟨rfl,10,j,_,_,_,_,rfl,Ends.a0s s hR ⟨_,.refl _,by rw[a8R hj h1 hc' h6 h7 h8 (by rw[hw];exact h9)],fun z hz=>(by cases hz)⟩⟩⟩
 replace h9:w ≠ []:=by simpa [eqS]using h9
 refine H6 (E8 (eSG (oA 1 rfl ?_)));cases hrm:leB 3000 (toks.length:Nat)
 ·have hrl:toks.length<3000:=by simp only[leB,decide_eq_false_iff_not]at hrm;omega
  refine oV (c39F s _ toks c a _ hrm) ?_;refine oB 1 rfl (eSG (oB 1 rfl ?_));refine Y9 rfl rfl ?_;refine eSG (oB 6 rfl (eSG (oA 7 rfl ?_)));refine o7 rfl rfl (addN zOm) ?_;refine oB 4 rfl (A7 (oA 3 rfl ?_));have hw0:0<w.length:=List.length_pos_iff.2 h9;have hst:=a6g (toks:=toks) hj h1 hc' h6 h7 h8 hw h9;rw[b1B hrm,hb.bump]at hst;have h46:=c46T s (j+w.length) toks c a e 8 w j zOm zOm he zOm;rw[show j+w.length-j=w.length by omega]at h46;refine oV (h46) ?_;refine I4 (eSG (oB 2 rfl ?_));refine O6 rfl (fun h10=>?_) (fun h10=>?_)
  ·replace h10:w=[40]:=by simpa [eqS]using h10
   refine A7 (oA 1 rfl ?_);refine o7 rfl rfl (c06 zOm zOm) ?_;refine oB 1 rfl (eSG (oB 2 rfl ?_));refine a0r rfl rfl ?_;refine H6 ?_;exact⟨_,_,rfl,ih ⟨j+w.length,p+1,toks++[(⟨8,w,j,w.length⟩:Tok)],4⟩ (by show s.length-(j+w.length)<s.length-i0;omega) ⟨by show j+w.length<=s.length;omega,by show i<=j+w.length;omega,by show List.length (toks++[(⟨8,w,j,w.length⟩:Tok)])<=3000;simp only[List.length_append,List.length_cons,List.length_nil];omega,.inr rfl,by show -((j+w.length:Nat):Int)<=p+1;omega,by show p+1 <=((j+w.length:Nat):Int);omega,hR.trans s (Reach.one s (by rw[hst,delta,h10];rfl))⟩⟩
  replace h10:w ≠ [40]:=by simpa [eqS]using h10
  refine eSG (oB 2 rfl ?_);refine O6 rfl (fun h11=>?_) (fun h11=>?_)
  ·replace h11:w=[41]:=by simpa [eqS]using h11
   refine A7 (oA 1 rfl ?_);refine o7 rfl rfl (c06 zOm zOm) ?_;refine oB 1 rfl (eSG (oB 2 rfl ?_));refine a0r rfl rfl ?_;refine H6 ?_;exact⟨_,_,rfl,ih ⟨j+w.length,p-1,toks++[(⟨8,w,j,w.length⟩:Tok)],4⟩ (by show s.length-(j+w.length)<s.length-i0;omega) ⟨by show j+w.length<=s.length;omega,by show i<=j+w.length;omega,by show List.length (toks++[(⟨8,w,j,w.length⟩:Tok)])<=3000;simp only[List.length_append,List.length_cons,List.length_nil];omega,.inr rfl,by show -((j+w.length:Nat):Int)<=p-1;omega,by show p-1 <=((j+w.length:Nat):Int);omega,hR.trans s (Reach.one s (by rw[hst,delta,h11];rfl))⟩⟩
  replace h11:w ≠ [41]:=by simpa [eqS]using h11
  refine H6 (eSG (oB 2 rfl ?_));refine a0r rfl rfl ?_;refine H6 ?_;exact⟨_,_,rfl,ih ⟨j+w.length,p,toks++[(⟨8,w,j,w.length⟩:Tok)],4⟩ (by show s.length-(j+w.length)<s.length-i0;omega) ⟨by show j+w.length<=s.length;omega,by show i<=j+w.length;omega,by show List.length (toks++[(⟨8,w,j,w.length⟩:Tok)])<=3000;simp only[List.length_append,List.length_cons,List.length_nil];omega,.inr rfl,by show -((j+w.length:Nat):Int)<=p;omega,by show p <=((j+w.length:Nat):Int);omega,hR.trans s (Reach.one s (by rw[hst,delta,decide_eq_false h10,decide_eq_false h11];simp only[Int.add_zero]))⟩⟩
 refine oV (c39T s _ toks c a _ hrm) ?_;refine oB 1 rfl (eSG (oB 1 rfl ?_));refine a0r rfl rfl ?_;refine H6 (eSG (oB 2 rfl ?_));refine O6 rfl (fun h12=>?_) (fun h12=>?_)
 ·refine A7 (oA 1 rfl ?_);refine o7 rfl rfl (c06 zOm zOm) ?_;refine oB 1 rfl (eSG (oB 2 rfl ?_));refine Y9 rfl rfl ?_;refine eSG (oB 1 rfl ?_);exact F7 ⟨_,_,_,rfl,rfl,.inr ⟨rfl,2,j,_,_,_,_,rfl,Ends.a0s s hR ⟨_,.refl _,by rw[a6g hj h1 hc' h6 h7 h8 hw h9,a7L hrm],fun z hz=>(by cases hz)⟩⟩⟩
 refine eSG (oB 2 rfl ?_);refine O6 rfl (fun h13=>?_) (fun h13=>?_)
 ·refine A7 (oA 1 rfl ?_);refine o7 rfl rfl (c06 zOm zOm) ?_;refine oB 1 rfl (eSG (oB 2 rfl ?_));refine Y9 rfl rfl ?_;refine eSG (oB 1 rfl ?_);exact F7 ⟨_,_,_,rfl,rfl,.inr ⟨rfl,2,j,_,_,_,_,rfl,Ends.a0s s hR ⟨_,.refl _,by rw[a6g hj h1 hc' h6 h7 h8 hw h9,a7L hrm],fun z hz=>(by cases hz)⟩⟩⟩
 refine H6 (eSG (oB 2 rfl ?_));refine Y9 rfl rfl ?_;refine eSG (oB 1 rfl ?_);exact F7 ⟨_,_,_,rfl,rfl,.inr ⟨rfl,2,j,_,_,_,_,rfl,Ends.a0s s hR ⟨_,.refl _,by rw[a6g hj h1 hc' h6 h7 h8 hw h9,a7L hrm],fun z hz=>(by cases hz)⟩⟩⟩
variable {s:List UInt8}
theorem getD_lt {k:Nat}(h:(s.getD k 0).toNat≠0):k<s.length:=by
 rcases Nat.lt_or_ge k s.length with h1|h1
 ·exact h1
 rw[List.getD_eq_getElem?_getD,List.getElem?_eq_none h1]at h;exact absurd rfl h
theorem c40 (hs:s.length<=100000){nest:Nat}(hnest:nest<=3)(hall:nest<3->AllOk s (nest+1)):b7T s nest:=by
 intro i i0 toks st c a e h0 hi hq ht he hlen;have hX0:=c4z (st:=st) h0 hi hq ht;rw[hlen]at hX0;generalize (⟨i0,toks,st⟩:MS)=X0 at hX0 ⊢;refine b3I rfl Tryz.func138 rfl rfl ?_;refine eSG (oB 1 rfl (eSG (oB 12 rfl (eSG (oB 1 rfl (eSG (oB 1 rfl (eSG (oA 5 rfl ?_)))))))));refine o7 rfl rfl (add1 zOm) ?_;refine oB 4 rfl ?_;refine M8 ?_;refine a4M rfl ?_;refine a6N (fun x:LS=>[(0,.ptr 0 0),(1,.i nest),(5,.i i),(6,.i x.frm),(7,.bool x.first),(8,.slice (.tag 2) x.text.length (a1n x.text))])
  (fun x=>[(0,.row [.str s,.i x.j,.slice (.tag 1) x.toks.length (a4v x.toks),.i c,.i a]),(1,.tip x.e x.toks.length),(2,.tip x.w x.text.length)])
  (fun x=>x.frm<x.j/\i<=x.frm/\x.j<=s.length/\x.text.length<=x.j/\x.toks.length<3000/\(x.e=0∨x.e=4)/\(x.w=0∨x.w=1)/\Reach s X0 x.X /\
   stepM s x.X=a5Q x.toks st i x.frm (match x.first with|true=>4|false=>7) (match x.first with|true=>5|false=>6) (part s i nest x.j x.text))
  (fun x=>s.length-x.j) ⟨X0,true,[],0,i+1,i,toks,e⟩ ⟨Nat.lt_succ_self _,Nat.le_refl _,hi,Nat.zero_le _,ht,he,.inl rfl,.refl _,hX0⟩ ?_
 intro⟨X,first,text,w,j,frm,toks,e⟩ ⟨hfj,hif,hj,htj,ht,he,hw,hR,hst⟩ ih;simp only at hfj hif hj htj ht he hw hR hst ih;show Ev _ _ _ _ _ [(0,.ptr 0 0),(1,.i nest),(5,.i i),(6,.i frm),(7,.bool first),(8,.slice (.tag 2) text.length (a1n text))] [(0,.row [.str s,.i j,.slice (.tag 1) toks.length (a4v toks),.i c,.i a]),(1,.tip e toks.length),(2,.tip w text.length)] _;refine M8 ?_;refine E8 (eSG (oA 3 rfl ?_));refine oV (c37 ..) ?_;refine oA 1 rfl ?_;refine J3 rfl rfl rfl (fun h1=>?_) (fun h1=>?_)
 ·replace h1:s.length<=j:=by simpa [leN_]using h1
  refine oB 13 rfl ?_;refine Y9 rfl rfl ?_;refine eSG (oA 2 rfl ?_);refine oV (c38 ..) ?_;refine oB 1 rfl ?_;exact F7 ⟨_,_,_,rfl,rfl,.inr ⟨rfl,11,i,_,_,_,_,rfl,Ends.a0s s hR ⟨X,.refl X,by rw[hst,c4c h1];rfl,fun z hz=>(by cases hz)⟩⟩⟩
 replace h1:j<s.length:=by simpa [leN_]using h1
 refine oA 10 rfl ?_;refine o7 rfl rfl (a0M (W9 zOm) rfl) ?_;refine oB 2 rfl ?_;refine O6 rfl (fun h2=>?_) (fun h2=>?_)
 ·have h2':=h2;simp only[a4u,zB]at h2;refine eSG (oA 2 rfl ?_);refine oV (c38 ..) ?_;refine oB 1 rfl ?_;exact F7 ⟨_,_,_,rfl,rfl,.inr ⟨rfl,11,i,_,_,_,_,rfl,Ends.a0s s hR ⟨X,.refl X,by rw[hst,c4d zOm];rfl,fun z hz=>(by cases hz)⟩⟩⟩
 have h2':=h2;simp only[a4u,zB]at h2;refine H6 (eSG (oA 10 rfl ?_));refine o7 rfl rfl (a0M (W9 zOm) rfl) ?_;refine oB 1 rfl (E8 ?_);refine M8 ?_;refine eSG (oB 3 rfl ?_);refine O6 rfl (fun h3=>?_) (fun h3=>?_)
 ·have h3':=h3;simp only[a4u,zB]at h3;refine eSG (oA 5 rfl ?_);refine o7 rfl rfl (add1 zOm) ?_;refine oB 4 rfl (eSG (oB 1 rfl (E8 (eSG (oB 1 rfl ?_)))));refine O6 rfl (fun h4=>?_) (fun h4=>?_)
  ·subst h4;refine A7 (oB 1 rfl (eSG (oA 3 rfl ?_)));refine b0y rfl rfl rfl (b3K text) ?_;refine oA 1 rfl ?_;refine oV (c46T s (j+1) toks c a e _ text frm zOm zOm he zOm) ?_;refine I4 (eSG (oB 1 rfl ?_));refine F7 ⟨_,_,_,rfl,rfl,.inl ⟨rfl,j+1,toks++[⟨4,text,frm,j+1-frm⟩],4,rfl,.inr rfl,zOm,by simp;omega,zOm,hR.trans s (Reach.one s (by rw[hst,b85 h1 zOm zOm];rfl))⟩⟩
  subst h4;refine H6 (eSG (oA 3 rfl ?_));refine b0y rfl rfl rfl (b3K text) ?_;refine oA 1 rfl ?_;refine oV (c46T s (j+1) toks c a e _ text frm zOm zOm he zOm) ?_;refine I4 (eSG (oB 1 rfl ?_));refine F7 ⟨_,_,_,rfl,rfl,.inl ⟨rfl,j+1,toks++[⟨7,text,frm,j+1-frm⟩],4,rfl,.inr rfl,zOm,by simp;omega,zOm,hR.trans s (Reach.one s (by rw[hst,b85 h1 zOm zOm];rfl))⟩⟩
 have h3':=h3;simp only[a4u,zB]at h3;refine eSG (oB 3 rfl ?_);refine O6 rfl (fun h5=>?_) (fun h5=>?_)
 ·have h5':=h5;simp only[a4u,zB]at h5;refine eSG (oA 3 rfl ?_);refine a3I rfl rfl rfl rfl rfl rfl rfl rfl rfl rfl rfl (a9G (a2d rfl) rfl) rfl rfl hw rfl (a6v text).symm (by show(text.length+1)*2<=_;omega) (a8m text (s.getD j 0)) (a5K text (s.getD j 0)) rfl ?_;refine oB 1 rfl (eSG (oA 5 rfl ?_));refine o7 rfl rfl (add1 zOm) ?_;refine oB 4 rfl ?_;refine a2k ?_;exact⟨_,_,rfl,ih ⟨X,first,text++[s.getD j 0],1,j+1,frm,toks,e⟩ (by show s.length-(j+1)<s.length-j;omega) ⟨by show frm<j+1;omega,hif,by show j+1<=s.length;omega,by show(text++[s.getD j 0]).length<=j+1;simp only[List.length_append,List.length_cons,List.length_nil];omega,ht,he,.inr rfl,hR,by rw[hst,c0J h1 zOm zOm zOm]⟩⟩
 have h5':=h5;simp only[a4u,zB]at h5;refine H6 (E8 (eSG (oA 3 rfl ?_)));refine oV (c62 s j toks.length (a4v toks) c a e 1 zOm) ?_;refine I4 ?_;refine M8 ?_;refine eSG (oB 2 rfl ?_);refine O6 rfl (fun h6=>?_) (fun h6=>?_)
 ·have h6':=h6;simp only[a4u,zB]at h6;have hj1:j+1<s.length:=getD_lt zOm;refine A7 (oA 2 rfl ?_);refine a3I rfl rfl rfl rfl rfl rfl rfl rfl rfl rfl rfl (a9G (a2d rfl) rfl) rfl rfl hw rfl (a6v text).symm (by show(text.length+1)*2<=_;omega) (a8m text (10)) (a5K text (10)) rfl ?_;refine oB 1 rfl (A7 (oA 5 rfl ?_));refine o7 rfl rfl (add2 zOm) ?_;refine oB 4 rfl ?_;exact⟨_,_,rfl,ih ⟨X,first,text++[10],1,j+2,frm,toks,e⟩ (by show s.length-(j+2)<s.length-j;omega) ⟨by show frm<j+2;omega,hif,by show j+2<=s.length;omega,by show(text++[10]).length<=j+2;simp only[List.length_append,List.length_cons,List.length_nil];omega,ht,he,.inr rfl,hR,by rw[hst,part_n h1 zOm zOm zOm]⟩⟩
 have h6':=h6;simp only[a4u,zB]at h6;refine eSG (oB 2 rfl ?_);refine O6 rfl (fun h7=>?_) (fun h7=>?_)
 ·have h7':=h7;simp only[a4u,zB]at h7;have hj1:j+1<s.length:=getD_lt zOm;refine A7 (oA 2 rfl ?_);refine a3I rfl rfl rfl rfl rfl rfl rfl rfl rfl rfl rfl (a9G (a2d rfl) rfl) rfl rfl hw rfl (a6v text).symm (by show(text.length+1)*2<=_;omega) (a8m text (9)) (a5K text (9)) rfl ?_;refine oB 1 rfl (A7 (oA 5 rfl ?_));refine o7 rfl rfl (add2 zOm) ?_;refine oB 4 rfl ?_;exact⟨_,_,rfl,ih ⟨X,first,text++[9],1,j+2,frm,toks,e⟩ (by show s.length-(j+2)<s.length-j;omega) ⟨by show frm<j+2;omega,hif,by show j+2<=s.length;omega,by show(text++[9]).length<=j+2;simp only[List.length_append,List.length_cons,List.length_nil];omega,ht,he,.inr rfl,hR,by rw[hst,part_t h1 zOm zOm zOm]⟩⟩
 have h7':=h7;simp only[a4u,zB]at h7;refine E8 (eSG (oB 2 rfl ?_));refine O6 rfl (fun h8=>?_) (fun h8=>?_)
 ·have h8':=h8;simp only[a4u,zB]at h8;have hj1:j+1<s.length:=getD_lt zOm;refine H6 ?_;refine Y9 rfl h8' ?_;refine A7 (oA 4 rfl ?_);refine oV (c62 s j toks.length (a4v toks) c a e 1 zOm) ?_;refine oA 1 rfl ?_;refine a3I rfl rfl rfl rfl rfl rfl rfl rfl rfl rfl rfl (a9G (a2d rfl) rfl) rfl rfl hw rfl (a6v text).symm (by show(text.length+1)*2<=_;omega) (a8m text (s.getD (j+1) 0)) (a5K text (s.getD (j+1) 0)) rfl ?_;refine oB 1 rfl (A7 (oA 5 rfl ?_));refine o7 rfl rfl (add2 zOm) ?_;refine oB 4 rfl ?_;exact⟨_,_,rfl,ih ⟨X,first,text++[s.getD (j+1) 0],1,j+2,frm,toks,e⟩ (by show s.length-(j+2)<s.length-j;omega) ⟨by show frm<j+2;omega,hif,by show j+2<=s.length;omega,by show(text++[s.getD (j+1) 0]).length<=j+2;simp only[List.length_append,List.length_cons,List.length_nil];omega,ht,he,.inr rfl,hR,by rw[hst,b6B h1 zOm zOm zOm]⟩⟩
 have h8':=h8;simp only[a4u,zB]at h8;refine A7 (oB 2 rfl ?_);refine O6 rfl (fun h9=>?_) (fun h9=>?_)
 ·have h9':=h9;simp only[a4u,zB]at h9;have hj1:j+1<s.length:=getD_lt zOm;refine A7 (oA 4 rfl ?_);refine oV (c62 s j toks.length (a4v toks) c a e 1 zOm) ?_;refine oA 1 rfl ?_;refine a3I rfl rfl rfl rfl rfl rfl rfl rfl rfl rfl rfl (a9G (a2d rfl) rfl) rfl rfl hw rfl (a6v text).symm (by show(text.length+1)*2<=_;omega) (a8m text (s.getD (j+1) 0)) (a5K text (s.getD (j+1) 0)) rfl ?_;refine oB 1 rfl (A7 (oA 5 rfl ?_));refine o7 rfl rfl (add2 zOm) ?_;refine oB 4 rfl ?_;exact⟨_,_,rfl,ih ⟨X,first,text++[s.getD (j+1) 0],1,j+2,frm,toks,e⟩ (by show s.length-(j+2)<s.length-j;omega) ⟨by show frm<j+2;omega,hif,by show j+2<=s.length;omega,by show(text++[s.getD (j+1) 0]).length<=j+2;simp only[List.length_append,List.length_cons,List.length_nil];omega,ht,he,.inr rfl,hR,by rw[hst,b6B h1 zOm zOm zOm]⟩⟩
 have h9':=h9;simp only[a4u,zB]at h9;refine eSG (oB 2 rfl ?_);refine O6 rfl (fun h10=>?_) (fun h10=>?_)
 ·have h10':=h10;simp only[a4u,zB]at h10;have hj1:j+1<s.length:=getD_lt zOm;refine E8 (eSG (oB 2 rfl ?_));refine O6 rfl (fun h11=>?_) (fun h11=>?_)
  ·have h11':=h11;simp only[a4u,zB]at h11;refine eSG (oA 6 rfl ?_);refine oV (c38 ..) ?_;refine oB 1 rfl ?_;exact F7 ⟨_,_,_,rfl,rfl,.inr ⟨rfl,15,j,_,_,_,_,rfl,Ends.a0s s hR ⟨X,.refl X,by rw[hst,c0K h1 zOm zOm zOm zOm];rfl,fun z hz=>(by cases hz)⟩⟩⟩
  have h11':=h11;simp only[a4u,zB]at h11;refine H6 (eSG (oA 5 rfl ?_));refine o7 rfl rfl (add2 zOm) ?_;refine oB 4 rfl (eSG (oB 1 rfl (E8 (eSG (oB 1 rfl ?_)))));refine O6 rfl (fun h12=>?_) (fun h12=>?_)
  ·subst h12;refine A7 (oB 1 rfl (eSG (oA 3 rfl ?_)));refine b0y rfl rfl rfl (b3K text) ?_;refine oA 1 rfl ?_;refine oV (c46T s (j+2) toks c a e _ text frm zOm zOm he zOm) ?_;refine I4 (E8 (eSG (oA 2 rfl ?_)));refine o7 rfl rfl (add1 zOm) ?_;refine oA 1 rfl ?_;have hR1:Reach s X0 ⟨j+2,toks++[⟨5,text,frm,j+2-frm⟩],(i,0)::st⟩:=hR.trans s (Reach.one s (by rw[hst,b6A h1 zOm zOm zOm zOm];rfl));obtain⟨v1,H1,hE,hP⟩:=hall zOm (j+2) (toks++[⟨5,text,frm,j+2-frm⟩]) st i c a 4 zOm (by simp;omega) (.inr rfl) zOm;rcases hP with⟨rfl,i',toks2,e2,rfl,he2,hi2,ht2,hi3,hi4,hi5,i1,hR2,hs2⟩ |⟨rfl,c',a',i',n',tc',e',rfl,hQ⟩
   ·refine oV (hE) ?_;refine oA 3 rfl ?_;cases hrm:leB 3000 (toks2.length:Nat)
    ·have hrl:toks2.length<3000:=by simp only[leB,decide_eq_false_iff_not]at hrm;omega
     refine oV (c39F s _ toks2 c a _ hrm) ?_;refine oB 2 rfl ?_;refine a0r rfl rfl ?_;refine H6 (eSG (oB 8 rfl (eSG (oA 5 rfl ?_))));refine o7 rfl rfl (add1 zOm) ?_;refine oB 4 rfl ?_;refine a2k ?_;exact⟨_,_,rfl,ih ⟨⟨i1,toks2,(i,0)::st⟩,false,[],0,i'+1,i',toks2,e2⟩ (by show s.length-(i'+1)<s.length-j;omega) ⟨Nat.lt_succ_self _,by show i<=i';omega,by show i'+1<=s.length;omega,Nat.zero_le _,hrl,he2,.inl rfl,(hR1.trans s hR2),by rw[a9o hs2 hi4 hi5,hlen];simp only[roomy,decide_eq_false (show ¬3000<=toks2.length by omega)]⟩⟩
    have hrl:3000<=toks2.length:=by simp only[leB,decide_eq_true_eq]at hrm;omega
    refine oV (c39T s _ toks2 c a _ hrm) ?_;refine oB 2 rfl ?_;refine Y9 rfl rfl ?_;refine eSG (oB 1 rfl ?_);exact F7 ⟨_,_,_,rfl,rfl,.inr ⟨rfl,2,i',_,_,_,_,rfl,Ends.a0s s (hR1.trans s hR2) ⟨_,.refl _,by rw[a9o hs2 hi4 hi5];simp only[roomy,decide_eq_true hrl],fun z hz=>(by cases hz)⟩⟩⟩
   refine oV (hE) ?_;refine oB 6 rfl ?_;refine Y9 rfl rfl ?_;refine eSG (oB 1 rfl ?_);exact F7 ⟨_,_,_,rfl,rfl,.inr ⟨rfl,c',a',_,_,_,_,rfl,Ends.a0s s hR1 hQ⟩⟩
  subst h12;refine H6 (eSG (oA 3 rfl ?_));refine b0y rfl rfl rfl (b3K text) ?_;refine oA 1 rfl ?_;refine oV (c46T s (j+2) toks c a e _ text frm zOm zOm he zOm) ?_;refine I4 (E8 (eSG (oA 2 rfl ?_)));refine o7 rfl rfl (add1 zOm) ?_;refine oA 1 rfl ?_;have hR1:Reach s X0 ⟨j+2,toks++[⟨6,text,frm,j+2-frm⟩],(i,0)::st⟩:=hR.trans s (Reach.one s (by rw[hst,b6A h1 zOm zOm zOm zOm];rfl));obtain⟨v1,H1,hE,hP⟩:=hall zOm (j+2) (toks++[⟨6,text,frm,j+2-frm⟩]) st i c a 4 zOm (by simp;omega) (.inr rfl) zOm;rcases hP with⟨rfl,i',toks2,e2,rfl,he2,hi2,ht2,hi3,hi4,hi5,i1,hR2,hs2⟩ |⟨rfl,c',a',i',n',tc',e',rfl,hQ⟩
  ·refine oV (hE) ?_;refine oA 3 rfl ?_;cases hrm:leB 3000 (toks2.length:Nat)
   ·have hrl:toks2.length<3000:=by simp only[leB,decide_eq_false_iff_not]at hrm;omega
    refine oV (c39F s _ toks2 c a _ hrm) ?_;refine oB 2 rfl ?_;refine a0r rfl rfl ?_;refine H6 (eSG (oB 8 rfl (eSG (oA 5 rfl ?_))));refine o7 rfl rfl (add1 zOm) ?_;refine oB 4 rfl ?_;refine a2k ?_;exact⟨_,_,rfl,ih ⟨⟨i1,toks2,(i,0)::st⟩,false,[],0,i'+1,i',toks2,e2⟩ (by show s.length-(i'+1)<s.length-j;omega) ⟨Nat.lt_succ_self _,by show i<=i';omega,by show i'+1<=s.length;omega,Nat.zero_le _,hrl,he2,.inl rfl,(hR1.trans s hR2),by rw[a9o hs2 hi4 hi5,hlen];simp only[roomy,decide_eq_false (show ¬3000<=toks2.length by omega)]⟩⟩
   have hrl:3000<=toks2.length:=by simp only[leB,decide_eq_true_eq]at hrm;omega
   refine oV (c39T s _ toks2 c a _ hrm) ?_;refine oB 2 rfl ?_;refine Y9 rfl rfl ?_;refine eSG (oB 1 rfl ?_);exact F7 ⟨_,_,_,rfl,rfl,.inr ⟨rfl,2,i',_,_,_,_,rfl,Ends.a0s s (hR1.trans s hR2) ⟨_,.refl _,by rw[a9o hs2 hi4 hi5];simp only[roomy,decide_eq_true hrl],fun z hz=>(by cases hz)⟩⟩⟩
  refine oV (hE) ?_;refine oB 6 rfl ?_;refine Y9 rfl rfl ?_;refine eSG (oB 1 rfl ?_);exact F7 ⟨_,_,_,rfl,rfl,.inr ⟨rfl,c',a',_,_,_,_,rfl,Ends.a0s s hR1 hQ⟩⟩
 have h10':=h10;simp only[a4u,zB]at h10;refine eSG (oA 6 rfl ?_);refine oV (c38 ..) ?_;refine oB 1 rfl ?_;exact F7 ⟨_,_,_,rfl,rfl,.inr ⟨rfl,12,j,_,_,_,_,rfl,Ends.a0s s hR ⟨X,.refl X,by rw[hst,c4b h1 zOm zOm zOm zOm zOm zOm zOm];rfl,fun z hz=>(by cases hz)⟩⟩⟩
variable {s:List UInt8}
theorem b7V (hs:s.length<=100000){nest:Nat}(h:b7T s nest)(hn:0<nest):AllOk s nest:=by
 intro i toks st opn c a e hi ht he hl;obtain⟨v,H2,h1,h2⟩:=c26 hs (base:=fun p=>(opn,p)::st) (.inr ⟨st,hl.symm,fun _=>rfl⟩) h i toks c a e hi ht he;refine⟨v,H2,h1,?_⟩;rcases h2 with⟨rfl,i',toks',e',g1,g2,g3,g4,g5,g6⟩|h2
 ·rcases g6 with⟨g6,_⟩ |⟨_,g7,g8,i0,g9,g10⟩
  ·omega
  exact .inl ⟨rfl,i',toks',e',g1,g2,g3,g4,g5,g7,g8,i0,g9,g10⟩
 exact .inr h2
theorem all0 (hs:s.length<=100000):AllP s 0 0 (fun _=>[]):=by
 have l3:b7T s 3:=c40 hs (Nat.le_refl _) (fun h=>absurd h (Nat.lt_irrefl _));have l2:b7T s 2:=c40 hs zOm (fun _=>b7V hs l3 zOm);have l1:b7T s 1:=c40 hs zOm (fun _=>b7V hs l2 zOm);have l0:b7T s 0:=c40 hs zOm (fun _=>b7V hs l1 zOm);exact c26 hs (.inl ⟨rfl,fun _=>rfl⟩) l0
def RBd:MR->Prop | .done l=>l.length<=3000 | .err _ _=>True | .go _=>False
def b3z:MR->V | .done l=>.tuple [.slice .sealed l.length (a4v l),.agg [.i 0,.i 0]] | .err c a=>.tuple [.slice .sealed 0 [],.agg [.i c,.i (a:Int)]] | .go _=>.undef
theorem c11big (h0:8000<s.length):E env (.call 41 [.str s]) []=some (.ret (b3z (.err 2 0)) []):=by
 refine U3 rfl Tryz.func41 rfl rfl ?_;refine eSG (oB 2 rfl (E8 (eSG (oB 3 rfl ?_))));refine O6 rfl (fun h1=>?_) (fun h1=>?_)
 ·refine eSG ?_;refine oD ?_;refine oB 2 rfl ?_;exact F7 ⟨_,rfl,rfl⟩
 exfalso;simp only[ltB,decide_eq_false_iff_not]at h1;omega
theorem c11P (h0:s.length<=8000):∃v H2,E env (.call 41 [.str s]) []=some (.ret v H2)/\H2=[] /\ ∃r,Ends s ⟨0,[],[]⟩ r/\RBd r/\v=b3z r:=by
 refine b3I rfl Tryz.func41 rfl rfl ?_;refine eSG (oB 2 rfl (E8 (eSG (oB 3 rfl ?_))));refine O6 rfl (fun h1=>?_) (fun h1=>?_)
 ·exfalso;simp only[ltB,decide_eq_true_eq]at h1;omega
 refine H6 (eSG (oA 1 rfl ?_));refine oD ?_;refine oD ?_;refine oB 2 rfl (E8 (eSG (oA 1 rfl ?_)));obtain⟨v1,H1,hE,hP⟩:=all0 (s:=s) zOm 0 [] 0 0 0 (Nat.zero_le _) (Nat.zero_le _) (.inl rfl);rcases hP with⟨rfl,i',toks2,e2,rfl,he2,hi2,ht2,hi3,hP⟩ |⟨rfl,c',a',i',n',tc',e',rfl,hQ⟩
 ·refine oV (hE) ?_;refine oB 1 rfl ?_;refine a0r rfl rfl ?_;refine H6 (eSG (oA 4 rfl ?_));refine oD ?_;refine oB 2 rfl ?_;refine F7 ⟨_,_,_,rfl,rfl,rfl,.done toks2,?_,ht2,rfl⟩;rcases hP with⟨_,hP⟩ |⟨hP,_⟩
  ·exact hP
  omega
 refine oV (hE) ?_;refine oB 1 rfl ?_;refine Y9 rfl rfl ?_;refine eSG (oB 6 rfl ?_);exact F7 ⟨_,_,_,rfl,rfl,rfl,.err c' a',hQ,trivial,rfl⟩
theorem c11 (h0:s.length<=8000):∃r,Ends s ⟨0,[],[]⟩ r/\RBd r/\E env (.call 41 [.str s]) []=some (.ret (b3z r) []):=by
 obtain⟨v,H2,h1,rfl,r,h2,h3,rfl⟩:=c11P h0;exact⟨r,h2,h3,h1⟩
end Go.Proofs.YtimgnjbjbdgmaaaGreatDoor.Sc
