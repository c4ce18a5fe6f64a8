/- Texts of ParseValid, joined. -/
import Derived.Test.YtimgnjbjbdgmaaaGreatDoorParseValidJ25
set_option maxRecDepth 100000
set_option maxHeartbeats 20000000
set_option linter.all false
namespace Go.Proofs.YtimgnjbjbdgmaaaGreatDoor
open Go Go.Vm Pr
variable {a nn o:Int} {r:List Nod} {ts:List Typ} {y:Nod} {t:Typ}
@[irreducible] def Nod.ms (x:Nod):Nat:=x.t.sz+szT x.ts+szN x.l
@[irreducible] def KK:Nat:=50000
theorem a9U:40000<=KK/\KK<=60000:=by unfold KK;decide
theorem a6p (x:Nod):x.sz=1+x.ms:=by rw[x.H8,Nod.ms];omega
theorem msn (o:Int)(s:Str)(n:Int)(t:Typ)(ts:List Typ)(l:List Nod)(a:Int):(⟨o,s,n,t,ts,l,a⟩:Nod).ms=t.sz+szT ts+szN l:=by rw[Nod.ms]
theorem c7Y {c d:Nat}{p:List Str->Option (List Str)}(h:TW c p)(hc:c<=d):TW d p:=fun w hw A B Q f R hok=>h w zOm A B Q f R fun u hu=>hok u zOm
theorem b45 {t:Typ}{n:Nat}(h1:t.sz<=100000)(h2:bkt t<=30000)(h3:10*t.sz+10<=n):TW (100000*t.sz) (fun w=>(J4.fs n).Q0 w t):=c7Y (tr_t t.sz t n (Nat.le_refl _) h1 h2 h3) zOm
theorem tr_p:∀(k:Nat) (x:Nod) (n:Nat),x.sz<=k->x.sz<=20000->bkn x<=30000->x.rn->10*x.sz+10<=n->TW (100000*x.sz-100) (fun w=>(J9.fs n).a2M w x)
 | 0,x,n,h,_,_,_,_=>by have:=x.H8;omega
 | k+1,x,n,h,hs,hb,hr0,hn=>by
  obtain⟨hrg,hr⟩:=(b6K x).1 hr0;have hx:=x.H8;have hbx:=a6V x;have hL:=I8 x.l;obtain⟨q,rfl⟩:∃q,n=q+2:=⟨n-2,zOm⟩
  have pr1:=fun{y:Nod} (h1:y.sz<=k) (h2:y.sz<=20000) (h3:bkn y<=30000) (h4:y.rn) (h5:10*y.sz+10<=q+1)=>tr_p k y (q+1) h1 h2 h3 h4 h5;show TW _ (fun w=>a4y (q+1) (J9.fs (q+1)) w x);unfold a4y a6q;have lp1:=lpt (l:=x.l) (c:=fun r=>100000*szN r) (L:=fun m i w=>a0I (q+1) (J9.fs (q+1)) x m w i) zOm (fun m i y r hx hi g1 g2 g3 ih=>by
   have hx1:=y.H8;have hx0:=nd hx hr;obtain⟨hx2,hx3,hx4,hx5⟩:=hx0;have hm:=a6p y;have hK:=a9U;simp only[a0I.eq_2,g1,g2,g3];exact po) (fun m g1=>by
   simp only[a0I.eq_2,g1];exact po) (q+1) 0 zOm (Nat.zero_le _)
  simp only[zD]at lp1;exact po
theorem pat_r' {x:Nod}{n:Nat}(h1:x.sz<=20000)(h2:bkn x<=30000)(h3:x.rn)(h4:10*x.sz+10<=n):TW (100000*x.sz) (fun w=>(J9.fs n).a2M w x):=c7Y (tr_p x.sz x n (Nat.le_refl _) h1 h2 h3 h4) zOm
theorem tr_par {l:List Nod}{n:Nat}(hs:szN l<=20000)(hb:bkN l<=30000)(hr:rnN l)(hn:10*szN l+20<=n):TW (100000*szN l) (fun w=>a00 n l n w 0):=by
 have hL:=I8 l;have pr1:=fun{t n}=>@b45 t n;have lp1:=lpt (l:=l) (c:=fun r=>100000*szN r) (L:=fun m i w=>a00 n l m w i) zOm (fun m i y r hx hi g1 g2 g3 ih=>by
  have hx1:=y.H8;have hx0:=nd hx hr;obtain⟨hx2,hx3,hx4,hx5⟩:=hx0;have hm:=a6p y;have hK:=a9U;simp only[a00.eq_2,g1,g2,g3];exact po) (fun m g1=>by
  simp only[a00.eq_2,g1];exact po) n 0 zOm (Nat.zero_le _)
 simp only[zD]at lp1;exact lp1
@[irreducible] def bkc (l:List Nod):Nat:=szN (l.filter fun y=>eqB y.op 20)
theorem bkc_t (h:y.op=20):bkc (y::r)=y.sz+bkc r:=by
 unfold bkc;rw[List.filter_cons,a5O h,if_pos rfl,b1G]
theorem bkc_f (h:¬y.op=20):bkc (y::r)=bkc r:=by
 unfold bkc;rw[List.filter_cons,a5N h];rfl
theorem L2:∀{α:Type} (x y:α) (r:List α),ltB 1 (((x::y::r).length:Nat):Int)=true:=fun _ _ _=>a04 (by simp;omega)
theorem subL11 {α:Type}(x:α):a9p [x] 1 1=some []:=c4A (l:=[])
structure TR (k:Nat):Prop where
 e:∀{x:Nod} {n:Nat},x.sz<=k->bkn x<=30000->x.rn->20*x.sz+50<=n->TW (100000*x.ms+KK) (fun w=>(p8.fs n).R8 w x)
 s:∀{x:Nod} {n:Nat},x.sz<=k->bkn x<=30000->x.rn->20*x.sz+50<=n->TW (100000*x.ms+KK) (fun w=>(p8.fs n).Z6 w x)
section
variable {k:Nat} (hk:k<=20000) (IH:TR k) {l:List Nod} (h1:szN l<=k) (hb:bkN l<=30000) (hr:rnN l) {n:Nat} (hn:20*szN l+50<=n)
include hk IH h1 hb hr hn
theorem tr_giv:TW (100000*szN l) (fun w=>a1C n (p8.fs n) l n w 0):=by
 have hL:=I8 l;have pr1:=fun{y n}=>IH.e (x:=y) (n:=n);have lp1:=lpt (l:=l) (c:=fun r=>100000*szN r) (L:=fun m i w=>a1C n (p8.fs n) l m w i) zOm (fun m i y r hx hi g1 g2 g3 ih=>by
  have hx1:=y.H8;have hx0:=nd hx hr;obtain⟨hx2,hx3,hx4,hx5⟩:=hx0;have hm:=a6p y;have hK:=a9U;simp only[a1C.eq_2,g1,g2,g3];exact po) (fun m g1=>by
  simp only[a1C.eq_2,g1];exact po) n 0 zOm (Nat.zero_le _)
 simp only[zD]at lp1;exact lp1
theorem c84 {s:Str}:TW (100000*szN l) (fun w=>a03 n (p8.fs n) ⟨o,s,nn,t,ts,l,a⟩ n w 0):=by
 have hL:=I8 l;have pr1:=fun{y n}=>IH.e (x:=y) (n:=n);have lp1:=lpt (l:=l) (c:=fun r=>100000*szN r) (L:=fun m i w=>a03 n (p8.fs n) ⟨o,s,nn,t,ts,l,a⟩ m w i) zOm (fun m i y r hx hi g1 g2 g3 ih=>by
  have hx1:=y.H8;have hx0:=nd hx hr;obtain⟨hx2,hx3,hx4,hx5⟩:=hx0;have hm:=a6p y;have hK:=a9U;simp only[a03.eq_2,g1,g2,g3];exact po) (fun m g1=>by
  simp only[a03.eq_2,g1];exact po) n 0 zOm (Nat.zero_le _)
 simp only[zD]at lp1;exact lp1
theorem tr_lit {s:Str}:TW (100000*szN l) (fun w=>a0F n (p8.fs n) ⟨o,s,nn,t,ts,l,a⟩ n w 0):=by
 have hL:=I8 l;have pr1:=fun{y n}=>IH.e (x:=y) (n:=n);have lp1:=lpt (l:=l) (c:=fun r=>100000*szN r) (L:=fun m i w=>a0F n (p8.fs n) ⟨o,s,nn,t,ts,l,a⟩ m w i) zOm (fun m i y r hx hi g1 g2 g3 ih=>by
  have hx1:=y.H8;have hx0:=nd hx hr;obtain⟨hx2,hx3,hx4,hx5⟩:=hx0;have hm:=a6p y;have hK:=a9U;simp only[a0F.eq_2,g1,g2,g3];exact po) (fun m g1=>by
  simp only[a0F.eq_2,g1];exact po) n 0 zOm (Nat.zero_le _)
 simp only[zD]at lp1;exact lp1
theorem tr_5 {s:Str}:TW (100000*szN l) (fun w=>Y4 n (p8.fs n) ⟨o,s,nn,t,ts,l,a⟩ n w 0):=by
 have hL:=I8 l;have pr1:=fun{y n}=>IH.s (x:=y) (n:=n);have lp1:=lpt (l:=l) (c:=fun r=>100000*szN r) (L:=fun m i w=>Y4 n (p8.fs n) ⟨o,s,nn,t,ts,l,a⟩ m w i) zOm (fun m i y r hx hi g1 g2 g3 ih=>by
  have hx1:=y.H8;have hx0:=nd hx hr;obtain⟨hx2,hx3,hx4,hx5⟩:=hx0;have hm:=a6p y;have hK:=a9U;simp only[Y4.eq_2,g1,g2,g3];exact po) (fun m g1=>by
  simp only[Y4.eq_2,g1];exact po) n 0 zOm (Nat.zero_le _)
 simp only[zD]at lp1;exact lp1
theorem tr_18 {s:Str}:TW (100000*szN l) (fun w=>a2F n (p8.fs n) ⟨o,s,nn,t,ts,l,a⟩ n w 0):=by
 have hL:=I8 l;have pr1:=fun{y n}=>IH.e (x:=y) (n:=n);have lp1:=lpt (l:=l) (c:=fun r=>100000*szN r) (L:=fun m i w=>a2F n (p8.fs n) ⟨o,s,nn,t,ts,l,a⟩ m w i) zOm (fun m i y r hx hi g1 g2 g3 ih=>by
  have hx1:=y.H8;have hx0:=nd hx hr;obtain⟨hx2,hx3,hx4,hx5⟩:=hx0;have hm:=a6p y;have hK:=a9U;simp only[a2F.eq_2,g1,g2,g3];exact po) (fun m g1=>by
  simp only[a2F.eq_2,g1];exact po) n 0 zOm (Nat.zero_le _)
 simp only[zD]at lp1;exact lp1
theorem tr_25 {s:Str}:TW (100000*szN l) (fun w=>a2G n (p8.fs n) ⟨o,s,nn,t,ts,l,a⟩ n w 0):=by
 have hL:=I8 l;have pr1:=fun{y n}=>IH.e (x:=y) (n:=n);have lp1:=lpt (l:=l) (c:=fun r=>100000*szN r) (L:=fun m i w=>a2G n (p8.fs n) ⟨o,s,nn,t,ts,l,a⟩ m w i) zOm (fun m i y r hx hi g1 g2 g3 ih=>by
  have hx1:=y.H8;have hx0:=nd hx hr;obtain⟨hx2,hx3,hx4,hx5⟩:=hx0;have hm:=a6p y;have hK:=a9U;simp only[a2G.eq_2,g1,g2,g3];exact po) (fun m g1=>by
  simp only[a2G.eq_2,g1];exact po) n 0 zOm (Nat.zero_le _)
 simp only[zD]at lp1;exact lp1
theorem tr_39 {s:Str}:TW (100000*szN l) (fun w=>a2H n (p8.fs n) ⟨o,s,nn,t,ts,l,a⟩ n w 0):=by
 have hL:=I8 l;have pr1:=fun{y n}=>IH.e (x:=y) (n:=n);have lp1:=lpt (l:=l) (c:=fun r=>100000*szN r) (L:=fun m i w=>a2H n (p8.fs n) ⟨o,s,nn,t,ts,l,a⟩ m w i) zOm (fun m i y r hx hi g1 g2 g3 ih=>by
  have hx1:=y.H8;have hx0:=nd hx hr;obtain⟨hx2,hx3,hx4,hx5⟩:=hx0;have hm:=a6p y;have hK:=a9U;simp only[a2H.eq_2,g1,g2,g3];exact po) (fun m g1=>by
  simp only[a2H.eq_2,g1];exact po) n 0 zOm (Nat.zero_le _)
 simp only[zD]at lp1;exact lp1
theorem tr_b8 {s:Str}:TW (100000*szN l) (fun w=>a13 n (p8.fs n) ⟨o,s,nn,t,ts,l,a⟩ n w 0):=by
 have hL:=I8 l;have pr1:=fun{y n}=>IH.e (x:=y) (n:=n);have pr2:=fun{y n}=>IH.s (x:=y) (n:=n);have lp1:=lpt (l:=l) (c:=fun r=>100000*szN r) (L:=fun m i w=>a13 n (p8.fs n) ⟨o,s,nn,t,ts,l,a⟩ m w i) zOm (fun m i y r hx hi g1 g2 g3 ih=>by
  have hx1:=y.H8;have hx0:=nd hx hr;obtain⟨hx2,hx3,hx4,hx5⟩:=hx0;have hm:=a6p y;have hK:=a9U;simp only[a13.eq_2,g1,g2,g3];exact po) (fun m g1=>by
  simp only[a13.eq_2,g1];exact po) n 0 zOm (Nat.zero_le _)
 simp only[zD]at lp1;exact lp1
theorem tr_b39 {s:Str}:TW (100000*szN l) (fun w=>a1A n (p8.fs n) ⟨o,s,nn,t,ts,l,a⟩ n w 0):=by
 have hL:=I8 l;have pr1:=fun{y n}=>IH.s (x:=y) (n:=n);have lp1:=lpt (l:=l) (c:=fun r=>100000*szN r) (L:=fun m i w=>a1A n (p8.fs n) ⟨o,s,nn,t,ts,l,a⟩ m w i) zOm (fun m i y r hx hi g1 g2 g3 ih=>by
  have hx1:=y.H8;have hx0:=nd hx hr;obtain⟨hx2,hx3,hx4,hx5⟩:=hx0;have hm:=a6p y;have hK:=a9U;simp only[a1A.eq_2,g1,g2,g3];exact po) (fun m g1=>by
  simp only[a1A.eq_2,g1];exact po) n 0 zOm (Nat.zero_le _)
 simp only[zD]at lp1;exact lp1
theorem tr_arms {s:Str}:TW (100000*szN l) (fun w=>R7 n (p8.fs n) ⟨o,s,nn,t,ts,l,a⟩ n w 0):=by
 have hL:=I8 l;have pr1:=fun{y n}=>IH.e (x:=y) (n:=n);have pr2:=fun{y n}=>IH.s (x:=y) (n:=n);have pr3:=fun{y n}=>@pat_r' y n;have lp1:=lpt (l:=l) (c:=fun r=>100000*szN r) (L:=fun m i w=>R7 n (p8.fs n) ⟨o,s,nn,t,ts,l,a⟩ m w i) zOm (fun m i y r hx hi g1 g2 g3 ih=>by
  have hx1:=y.H8;have hx0:=nd hx hr;obtain⟨hx2,hx3,hx4,hx5⟩:=hx0;have hm:=a6p y;have hK:=a9U;obtain⟨yo,ys,yn,yt,yts,yl,ya⟩:=y;obtain⟨p1,p2,p3,p4,p5⟩:=hx2;simp only[WN]at hx1 p1 p2 p3 p4 p5 ⊢;simp only[R7.eq_2,g1,g2,g3];rcases yl with _ |⟨u,_ |⟨v,_ |⟨z,r'⟩⟩⟩<;>simp only[WN]at hx1 p1 p2 p3 p4 p5 ⊢
  ·have fin:=LN;exact po
  ·have fin:=LN;exact po
  ·obtain⟨hr1,hr2,hr3⟩:=id hx4;have hu:=a6p v;have fin:=LN;exact po
  ·have e:decide ((((u::v::z::r').length:Nat):Int)=2)=false:=decide_eq_false (by simp;omega);have fin:=e;exact po) (fun m g1=>by
  simp only[R7.eq_2,g1];exact po) n 0 zOm (Nat.zero_le _)
 simp only[zD]at lp1;exact lp1
theorem tr_do {s:Str}(h0:s.length<=30000):TW (100000*szN l) (fun w=>a1z n (p8.fs n) ⟨o,s,nn,t,ts,l,a⟩ n w 0):=by
 have hL:=I8 l;have pr2:=fun{y n}=>IH.s (x:=y) (n:=n);have lp1:=lpt (l:=l) (c:=fun r=>100000*szN r) (L:=fun m i w=>a1z n (p8.fs n) ⟨o,s,nn,t,ts,l,a⟩ m w i) zOm (fun m i y r hx hi g1 g2 g3 ih=>by
  have hx1:=y.H8;have hx0:=nd hx hr;obtain⟨hx2,hx3,hx4,hx5⟩:=hx0;have hm:=a6p y;have hK:=a9U;simp only[a1z.eq_2,g1,g2,g3];exact po) (fun m g1=>by
  simp only[a1z.eq_2,g1];exact po) n 0 zOm (Nat.zero_le _)
 simp only[zD]at lp1;exact lp1
theorem tr_clb {s:Str}:TW (100000*bkc l) (fun w=>Y6 n (p8.fs n) ⟨o,s,nn,t,ts,l,a⟩ n w 0):=by
 have hL:=I8 l;have lp1:=lpt (l:=l) (c:=fun r=>100000*bkc r) (L:=fun m i w=>Y6 n (p8.fs n) ⟨o,s,nn,t,ts,l,a⟩ m w i) zOm (fun m i y r hx hi g1 g2 g3 ih=>by
  have hx1:=y.H8;have hx0:=nd hx hr;obtain⟨hx2,hx3,hx4,hx5⟩:=hx0;have hm:=a6p y;have hK:=a9U;obtain⟨yo,ys,yn,yt,yts,yl,ya⟩:=y;obtain⟨p1,p2,p3,p4,p5⟩:=hx2;simp only[WN]at hx1 p1 p2 p3 p4 p5;simp only[Y6.eq_2,g1,g2,NF,cl35 (x:=⟨o,s,nn,t,ts,l,a⟩) g2];by_cases ho:yo=20
  ·rw[a5O ho,bkc_t ho];have pr1:=tr_5 (l:=yl) (n:=n) (o:=yo) (nn:=yn) (a:=ya) (s:=ys) (t:=yt) (ts:=yts) hk IH zOm zOm hx4 zOm;simp only[WN];exact po
  ·rw[a5N ho,bkc_f ho];exact po) (fun m g1=>by
  simp only[Y6.eq_2,g1];exact po) n 0 zOm (Nat.zero_le _)
 simp only[zD]at lp1;exact lp1
end
theorem tr_clos {k:Nat}(hk:k<=20000)(IH:TR k){s:Str}{l:List Nod}(h1:szN l<=k)(hb:bkN l<=30000)(hr:rnN l){n:Nat}(hn:20*szN l+60<=n):∃P B:Nat,P+B<=szN l/\TW (100000*P+20) (fun w=>a4V n w ⟨o,s,nn,t,ts,l,a⟩)/\TW (100000*B) (fun w=>Y6 n (p8.fs n) ⟨o,s,nn,t,ts,l,a⟩ n w 0):=by
 have hL:=I8 l;obtain⟨_,o1⟩:=@ofs n ⟨o,s,nn,t,ts,l,a⟩ 10 (by simp only;omega) (by simp only;omega);simp only at o1;have f0:=filt2 (fun y=>eqB y.op 10) (fun y=>eqB y.op 20) (fun y h=>by rw[a5M]at h ⊢;exact decide_eq_false (by have:=of_decide_eq_true h;omega)) l;have f1:=b5l (fun y=>eqB y.op 10) l;have f3:=c4w (fun y hy=>(List.mem_filter.1 hy).1) hr (r:=l.filter (fun y=>eqB y.op 10));refine⟨szN (l.filter fun y=>eqB y.op 10),bkc l,by unfold bkc;omega,?_,tr_clb hk IH h1 hb hr zOm⟩;generalize l.filter (fun y=>eqB y.op 10)=P at *;have pr1:=@tr_par P n zOm zOm f3 zOm;have fin:=o1;unfold a4V;exact po
section
variable {k:Nat} (hk:k+1<=20000) (IH:TR k) {x:Nod} {q:Nat} (hs:x.sz<=k+1) (hb:bkn x<=30000) (hr:x.rn) (hn:20*x.sz+50<=q+8)
include hk IH hs hb hr hn
theorem tr_expr:TW (100000*x.ms+KK) (fun w=>a4l (q+7) (p8.fs (q+7)) w x):=by
 obtain⟨o,s,nn,t,ts,l,a⟩:=x;have hL:=I8 l;obtain⟨hrg,hr⟩:=hr;simp only[WN,msn]at hs hb hn ⊢;have hK:=a9U;have ht:=t.H8;have pr1:=fun{y n}=>IH.e (x:=y) (n:=n);have pr2:=fun{t n}=>@b45 t n;have lp1:=fun{l n} (h1:szN l<=k) (hb:bkN l<=30000) (hr:rnN l) (hn:20*szN l+50<=n)=>tr_giv (l:=l) (n:=n) zOm IH h1 hb hr hn;have lp2:=c84 (l:=l) (n:=q+7) (o:=o) (nn:=nn) (a:=a) (s:=s) (t:=t) (ts:=ts) zOm IH zOm zOm hr zOm;have lp3:=tr_lit (l:=l) (n:=q+7) (o:=o) (nn:=nn) (a:=a) (s:=s) (t:=t) (ts:=ts) zOm IH zOm zOm hr zOm;obtain⟨P,B,hP,pr3,pr4⟩:=tr_clos (l:=l) (n:=q+6) (o:=o) (nn:=nn) (a:=a) (s:=s) (t:=t) (ts:=ts) zOm IH zOm zOm hr zOm;simp only[a4l,UF,a6M,a5e,a5H,a6q,a7U,a5Z,NF];rcases l with _ |⟨y,_ |⟨z,r⟩⟩<;>simp only[WN]at hs hb hn hP ⊢
 ·have fin:=LN;exact po
 ·obtain⟨hr1,hr2⟩:=id hr;have hy:=a6p y;simp only[subL11,c4A,LN,NF];exact po
 obtain⟨hr1,hr2,hr3⟩:=id hr;have hr4:=hr.2;have hy:=a6p y;have hz:=a6p z;simp only[c4A,LN,L2,NF];exact po
theorem tr_stat:TW (100000*x.ms+KK) (fun w=>a3f (q+7) (p8.fs (q+7)) w x):=by
 obtain⟨o,s,nn,t,ts,l,a⟩:=x;have hL:=I8 l;obtain⟨hrg,hr⟩:=hr;simp only[WN,msn]at hs hb hn ⊢;have hK:=a9U;have ht:=t.H8;have pr2:=fun{t n}=>@b45 t n;have h18:=tr_18 (l:=l) (n:=q+7) (o:=o) (nn:=nn) (a:=a) (s:=s) (t:=t) (ts:=ts) zOm IH zOm zOm hr zOm;have h25:=tr_25 (l:=l) (n:=q+7) (o:=o) (nn:=nn) (a:=a) (s:=s) (t:=t) (ts:=ts) zOm IH zOm zOm hr zOm;have h39:=tr_39 (l:=l) (n:=q+7) (o:=o) (nn:=nn) (a:=a) (s:=s) (t:=t) (ts:=ts) zOm IH zOm zOm hr zOm;have h5:=tr_5 (l:=l) (n:=q+7) (o:=o) (nn:=nn) (a:=a) (s:=s) (t:=t) (ts:=ts) zOm IH zOm zOm hr zOm;have pr1:=tr_b8 (l:=l) (n:=q+6) (o:=o) (nn:=nn) (a:=a) (s:=s) (t:=t) (ts:=ts) zOm IH zOm zOm hr zOm;have pr3:=tr_b39 (l:=l) (n:=q+6) (o:=o) (nn:=nn) (a:=a) (s:=s) (t:=t) (ts:=ts) zOm IH zOm zOm hr zOm;have pr4:=tr_arms (l:=l) (n:=q+6) (o:=o) (nn:=nn) (a:=a) (s:=s) (t:=t) (ts:=ts) zOm IH zOm zOm hr zOm;have pr5:=tr_do (l:=l) (n:=q+6) (o:=o) (nn:=nn) (a:=a) (s:=s) (t:=t) (ts:=ts) zOm IH zOm zOm hr zOm zOm;have lp1:=h18;have lp2:=h25;have lp3:=h39;have ih:=h5;simp only[a3f,UF,a5d,NF];exact po
end
theorem tr_all:∀k,k<=20000->TR k
 | 0,_=>⟨fun{x n} h=>absurd x.H8 zOm,fun{x n} h=>absurd x.H8 zOm⟩
 | k+1,hk=>by
  have IH:=tr_all k zOm;refine⟨fun{x n} h hb hr hn=>?_,fun{x n} h hb hr hn=>?_⟩<;>obtain⟨q,rfl⟩:∃q,n=q+8:=⟨n-8,by have:=x.H8;omega⟩
  ·exact tr_expr hk IH h hb hr hn
  exact tr_stat hk IH h hb hr hn
theorem sta_r {x:Nod}{n:Nat}(h1:x.sz<=20000)(hb:bkn x<=30000)(hr:x.rn)(hn:20*x.sz+50<=n):TW (100000*x.ms+KK) (fun w=>(p8.fs n).Z6 w x):=(tr_all 20000 (Nat.le_refl _)).s h1 hb hr hn
end Go.Proofs.YtimgnjbjbdgmaaaGreatDoor
