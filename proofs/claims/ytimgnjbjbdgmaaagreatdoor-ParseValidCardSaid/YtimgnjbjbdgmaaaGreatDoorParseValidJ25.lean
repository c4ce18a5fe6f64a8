/- Texts of ParseValid, joined. -/
import Derived.Test.YtimgnjbjbdgmaaaGreatDoorParseValidJ24
set_option maxRecDepth 100000
set_option maxHeartbeats 20000000
set_option linter.all false
namespace Go.Proofs.YtimgnjbjbdgmaaaGreatDoor
open Go Go.Vm Pr
variable {a nn o:Int} {ts:List Typ} {t:Typ}
theorem tp_p:∀(k:Nat) (x:Nod) (n:Nat),x.sz<=k->x.sz<=20000->bkn x<=30000->x.rn->10*x.sz+10<=n->TW (100000*x.sz-100) (fun w=>(C8.fs n).V6 x w)
 | 0,x,n,h,_,_,_,_=>by have:=x.H8;omega
 | k+1,x,n,h,hs,hb,hr0,hn=>by
  obtain⟨hrg,hr⟩:=(b6K x).1 hr0;have hx:=x.H8;have hbx:=a6V x;have hL:=I8 x.l;obtain⟨q,rfl⟩:∃q,n=q+3:=⟨n-3,zOm⟩
  have pr1:=fun{y:Nod} (h1:y.sz<=k) (h2:y.sz<=20000) (h3:bkn y<=30000) (h4:y.rn) (h5:10*y.sz+10<=q+1)=>tp_p k y (q+1) h1 h2 h3 h4 h5;have e1:(C8.fs (q+2)).a1q=a1r (q+1) (C8.fs (q+1)):=rfl;show TW _ (fun w=>X8 (q+2) (C8.fs (q+2)) x w);unfold X8 a06 a1x;simp only[e1];unfold a1r;have lp1:=lpt (l:=x.l) (c:=fun r=>100000*szN r) (L:=fun m i w=>Z5 (q+1) (C8.fs (q+1)) x.l m i w) zOm (fun m i y r hx hi h1 h2 h3 ih=>by
   have hx1:=y.H8;have hx0:=nd hx hr;obtain⟨hx2,hx3,hx4,hx5⟩:=hx0;simp only[Z5.eq_2,h1,h2,h3];exact po) (fun m h1=>by
   simp only[Z5.eq_2,h1];exact po) (q+1) 0 zOm (Nat.zero_le _)
  simp only[zD]at lp1;exact po
theorem b55 {t:Typ}{n:Nat}(h1:t.sz<=100000)(h2:bkt t<=30000)(h3:10*t.sz+10<=n):TW (100000*t.sz-100) (fun w=>(w9.fs n).J7 t w):=tp_t t.sz t n (Nat.le_refl _) h1 h2 h3
theorem pat_o {x:Nod}{n:Nat}(h1:x.sz<=20000)(h2:bkn x<=30000)(h3:x.rn)(h4:10*x.sz+10<=n):TW (100000*x.sz-100) (fun w=>(C8.fs n).V6 x w):=tp_p x.sz x n (Nat.le_refl _) h1 h2 h3 h4
theorem pat_z {n:Nat}:TW 0 (fun w=>(C8.fs (n+1)).V6 ⟨0,[],0,zT,[],[],0⟩ w):=by
 show TW 0 (fun w=>X8 n (C8.fs n) ⟨0,[],0,zT,[],[],0⟩ w);unfold X8;exact po
theorem exp_z {n:Nat}:TW 0 (fun w=>(j6.fs (n+2)).I7 ⟨0,[],0,zT,[],[],0⟩ w):=by
 show TW 0 (fun w=>a0b (n+1) (j6.fs (n+1)) ⟨0,[],0,zT,[],[],0⟩ w);unfold a0b;simp only[UF];unfold a2w;exact po
theorem blk_z {n:Nat}:TW 10 (fun w=>(j6.fs (n+2)).K8 ⟨0,[],0,zT,[],[],0⟩ w):=by
 show TW 10 (fun w=>a0g (n+1) (j6.fs (n+1)) ⟨0,[],0,zT,[],[],0⟩ w);unfold a0g;have fin:=And.intro (@O4.eq_2) LN;exact po
theorem tp_par {l:List Nod}{n:Nat}(hs:szN l<=20000)(hb:bkN l<=30000)(hr:rnN l)(hn:10*szN l+20<=n):TW (100000*szN l) (fun w=>U4 n l n 0 w):=by
 have hL:=I8 l;have pr1:=fun{t n}=>@b55 t n;have lp1:=lpt (l:=l) (c:=fun r=>100000*szN r) (L:=fun m i w=>U4 n l m i w) zOm (fun m i x r hx hi h1 h2 h3 ih=>by
  have hx1:=x.H8;have hx0:=nd hx hr;obtain⟨hx2,hx3,hx4,hx5⟩:=hx0;simp only[a0V,U4.eq_2,h1,h2,h3];exact po) (fun m h1=>by
  simp only[U4.eq_2,h1];exact po) n 0 zOm (Nat.zero_le _)
 simp only[zD]at lp1;exact lp1
abbrev z0:Nod:=⟨0,[],0,zT,[],[],0⟩
theorem KL:(∀o s n t ts a i,O8 ⟨o,s,n,t,ts,[],a⟩ ((i:Nat):Int)=some z0)/\(∀o s n t ts a,O8 ⟨o,s,n,t,ts,[],a⟩ 0=some z0)/\(∀o s n t ts a,O8 ⟨o,s,n,t,ts,[],a⟩ 1=some z0)/\(∀o s n t ts a y r,O8 ⟨o,s,n,t,ts,y::r,a⟩ 0=some y)/\(∀o s n t ts a y,O8 ⟨o,s,n,t,ts,[y],a⟩ 1=some z0)/\(∀o s n t ts a y z r,O8 ⟨o,s,n,t,ts,y::z::r,a⟩ 1=some z)/\(∀o s n t ts a,a6e ⟨o,s,n,t,ts,[],a⟩ 1=some [])/\(∀o s n t ts a y r,a6e ⟨o,s,n,t,ts,y::r,a⟩ 1=some r):=by
 refine⟨?_,?_,?_,?_,?_,?_,?_,fun _ _ _ _ _ _ _ _=>rest1⟩<;>intros<;>simp only[O8,a6e,LN,NF]
 ·rw[a2e zSi];rfl
 rw[a04 (by simp;omega)];rfl
structure TL (k:Nat):Prop where
 e:∀{x:Nod} {n:Nat},x.sz<=k->bkn x<=30000->x.rn->20*x.sz+50<=n->TW (100000*x.sz-100) (fun w=>(j6.fs n).I7 x w)
 s:∀{x:Nod} {n:Nat},x.sz<=k->bkn x<=30000->x.rn->20*x.sz+50<=n->TW (100000*x.sz-100) (fun w=>(j6.fs n).V4 x w)
 b:∀{x:Nod} {n:Nat},x.sz<=k->bkn x<=30000->x.rn->20*x.sz+50<=n->TW (100000*x.sz-100) (fun w=>(j6.fs n).K8 x w)
section
variable {k:Nat} (hk:k<=20000) (IH:TL k) {l:List Nod} (h1:szN l<=k) (hb:bkN l<=30000) (hr:rnN l) {n:Nat} (hn:20*szN l+50<=n)
include hk IH h1 hb hr hn
theorem tl_list:TW (100000*szN l) (fun w=>K7 n (j6.fs n) l n 0 w):=by
 have hL:=I8 l;have pr1:=fun{y n}=>IH.e (x:=y) (n:=n);have lp1:=lpt (l:=l) (c:=fun r=>100000*szN r) (L:=fun m i w=>K7 n (j6.fs n) l m i w) zOm (fun m i x r hx hi g1 g2 g3 ih=>by
  have hx1:=x.H8;have hx0:=nd hx hr;obtain⟨hx2,hx3,hx4,hx5⟩:=hx0;simp only[K7.eq_2,g1,g2,g3];exact po) (fun m g1=>by
  simp only[K7.eq_2,g1];exact po) n 0 zOm (Nat.zero_le _)
 simp only[zD]at lp1;exact lp1
theorem c4F {s:Str}:TW (100000*szN l) (fun w=>O4 n (j6.fs n) ⟨o,s,nn,t,ts,l,a⟩ n 0 w):=by
 have hL:=I8 l;have pr1:=fun{y n}=>IH.s (x:=y) (n:=n);have lp1:=lpt (l:=l) (c:=fun r=>100000*szN r) (L:=fun m i w=>O4 n (j6.fs n) ⟨o,s,nn,t,ts,l,a⟩ m i w) zOm (fun m i x r hx hi g1 g2 g3 ih=>by
  have hx1:=x.H8;have hx0:=nd hx hr;obtain⟨hx2,hx3,hx4,hx5⟩:=hx0;simp only[O4.eq_2,g1,g2,g3];exact po) (fun m g1=>by
  simp only[O4.eq_2,g1];exact po) n 0 zOm (Nat.zero_le _)
 simp only[zD]at lp1;exact lp1
theorem c83 {s:Str}:TW (100000*szN l) (fun w=>V3 n (j6.fs n) ⟨o,s,nn,t,ts,l,a⟩ n 0 w):=by
 have hL:=I8 l;have pr1:=fun{y n}=>IH.e (x:=y) (n:=n);have lp1:=lpt (l:=l) (c:=fun r=>100000*szN r) (L:=fun m i w=>V3 n (j6.fs n) ⟨o,s,nn,t,ts,l,a⟩ m i w) zOm (fun m i x r hx hi g1 g2 g3 ih=>by
  have hx1:=x.H8;have hx0:=nd hx hr;obtain⟨hx2,hx3,hx4,hx5⟩:=hx0;simp only[V3.eq_2,g1,g2,g3];exact po) (fun m g1=>by
  simp only[V3.eq_2,g1];exact po) n 0 zOm (Nat.zero_le _)
 simp only[zD]at lp1;exact lp1
theorem tl_arms (hm:0<n):TW (100000*szN l) (fun w=>N9 n (j6.fs n) l n 0 w):=by
 obtain⟨q,rfl⟩:∃q,n=q+2:=⟨n-2,zOm⟩
 have hL:=I8 l;have pr1:=fun{y n}=>IH.b (x:=y) (n:=n);have pr2:=fun{y n}=>@pat_o y n;have pz1:=fun{n}=>@pat_z n;have pz2:=fun{n}=>@blk_z n;have fin:=KL;have lp1:=lpt (l:=l) (c:=fun r=>100000*szN r) (L:=fun m i w=>N9 (q+2) (j6.fs (q+2)) l m i w) zOm (fun m i x r hx hi g1 g2 g3 ih=>by
  have hx1:=x.H8;have hx0:=nd hx hr;obtain⟨hx2,hx3,hx4,hx5⟩:=hx0;obtain⟨yo,ys,yn,yt,yts,yl,ya⟩:=x;have hyl:=I8 yl;obtain⟨p1,p2,p3,p4,p5⟩:=hx2;simp only[WN]at hx1 p1 p2 p3 p4 p5 ⊢;simp only at hx4;simp only[N9.eq_2,g1,g2,g3];rcases yl with _ |⟨y,_ |⟨z,r⟩⟩<;>simp only[WN]at hx1 p1 p2 p3 p4 p5 ⊢
  ·exact po
  ·obtain⟨hr1,hr2⟩:=id hx4;exact po
  ·obtain⟨hr1,hr2,hr3⟩:=id hx4;exact po) (fun m g1=>by
  simp only[N9.eq_2,g1];exact po) (q+2) 0 zOm (Nat.zero_le _)
 simp only[zD]at lp1;exact lp1
end
theorem filt2 (p q:Nod->Bool)(h:∀y,p y=true->q y=false):∀l:List Nod,szN (l.filter p)+szN (l.filter q)<=szN l
 | []=>Nat.le_refl _
 | x::r=>by
  have:=filt2 p q h r;have:=h x;rw[List.filter_cons,List.filter_cons];cases hp:p x<;>cases hq:q x<;>simp_all [WN]<;>omega
theorem tl_clos {k:Nat}(hk:k<=20000)(IH:TL k){s:Str}{l:List Nod}(h0:t.sz<=100000)(ht:bkt t<=30000)(h1:szN l<=k)(hb:bkN l<=30000)(hr:rnN l){n:Nat}(hn:20*szN l+20*t.sz+60<=n):TW (100000*(t.sz+szN l)) (fun w=>a0U n (j6.fs n) ⟨o,s,nn,t,ts,l,a⟩ w):=by
 have hL:=I8 l;have ht0:=t.H8;obtain⟨o1,_⟩:=@ofs n ⟨o,s,nn,t,ts,l,a⟩ 10 (by simp only;omega) (by simp only;omega);obtain⟨o2,_⟩:=@ofs n ⟨o,s,nn,t,ts,l,a⟩ 20 (by simp only;omega) (by simp only;omega);rw[fl1]at o1 o2;simp only at o1 o2;have f0:=filt2 (fun y=>eqB y.op 10) (fun y=>eqB y.op 20) (fun y h=>by rw[a5M]at h ⊢;exact decide_eq_false (by have:=of_decide_eq_true h;omega)) l;have f1:=b5l (fun y=>eqB y.op 10) l;have f2:=b5l (fun y=>eqB y.op 20) l;have f3:=c4w (fun y hy=>(List.mem_filter.1 hy).1) hr (r:=l.filter (fun y=>eqB y.op 10));have f4:=c4w (fun y hy=>(List.mem_filter.1 hy).1) hr (r:=l.filter (fun y=>eqB y.op 20));generalize l.filter (fun y=>eqB y.op 10)=P at *;generalize l.filter (fun y=>eqB y.op 20)=B at *;have hB:=I8 B;have pr1:=@tp_par P n zOm zOm f3 zOm;have pr2:=fun{t n}=>@b55 t n;have pr3:=fun{l:List Nod} (h1:szN l<=k) (hb:bkN l<=30000) (hr:rnN l) (hn:20*szN l+50<=n) {o nn a:Int} {s:Str} {t:Typ} {ts:List Typ}=>c4F (l:=l) (n:=n) (o:=o) (nn:=nn) (a:=a) (s:=s) (t:=t) (ts:=ts) hk IH h1 hb hr hn;have lp1:=lpt (l:=B) (c:=fun r=>100000*szN r) (L:=fun m i w=>a1k n (j6.fs n) B m i w) zOm (fun m i x r hx hi g1 g2 g3 ih=>by
  have hx1:=x.H8;obtain⟨xo,xs,xn,xt,xts,xl,xa⟩:=x;have hx0:=nd hx f4;obtain⟨hx2,hx3,hx4,hx5⟩:=hx0;obtain⟨p1,p2,p3,p4,p5⟩:=hx2;simp only[WN]at hx1 p1 p2 p3 p4 p5 ⊢;simp only at hx4;simp only[a1k.eq_2,cl9,g1,g2,g3];exact po) (fun m g1=>by
  simp only[a1k.eq_2,cl9,h1];exact po) n 0 zOm (Nat.zero_le _)
 simp only[zD]at lp1;have fin:=And.intro o1 (And.intro o2 LN);unfold a0U a07 a2s a08;exact po
section
variable {k:Nat} (hk:k+1<=20000) (IH:TL k) {x:Nod} {q:Nat} (hs:x.sz<=k+1) (hb:bkn x<=30000) (hr:x.rn) (hn:20*x.sz+50<=q+8)
include hk IH hs hb hr hn
theorem tl_expr:TW (100000*x.sz-100) (fun w=>a0b (q+7) (j6.fs (q+7)) x w):=by
 obtain⟨o,s,nn,t,ts,l,a⟩:=x;have hL:=I8 l;obtain⟨hrg,hr⟩:=hr;simp only[WN]at hs hb hn ⊢;have ht:=t.H8;have pr1:=fun{y n}=>IH.e (x:=y) (n:=n);have pr2:=fun{t n}=>@b55 t n;have pz1:=fun{n}=>@exp_z n;have lp1:=fun{l n} (h1:szN l<=k) (hb:bkN l<=30000) (hr:rnN l) (hn:20*szN l+50<=n)=>tl_list (l:=l) (n:=n) zOm IH h1 hb hr hn;have lp2:=c83 (l:=l) (n:=q+6) (o:=o) (nn:=nn) (a:=a) (s:=s) (t:=t) (ts:=ts) zOm IH zOm zOm hr zOm;have lp3:=tl_clos (l:=l) (n:=q+6) (o:=o) (nn:=nn) (a:=a) (s:=s) (t:=t) (ts:=ts) zOm IH zOm zOm zOm zOm hr zOm;have fin:=LN;simp only[a0b,UF,a2w,a2a,a3j,a2A,a1l,a06,a1x,NF];rcases l with _ |⟨y,_ |⟨z,r⟩⟩
 ·simp only[KL,LN,NF];exact po
 ·obtain⟨hr1,hr2⟩:=id hr;simp only[KL,LN,NF];exact po
 obtain⟨hr1,hr2,hr3⟩:=id hr;have hr4:=hr.2;simp only[KL,LN,NF];exact po
end
theorem L3:∀{α:Type} (x y z:α) (r:List α),ltB 2 (((x::y::z::r).length:Nat):Int)=true:=fun _ _ _ _=>a04 (by simp;omega)
section
variable {k:Nat} (hk:k+1<=20000) (IH:TL k) {x:Nod} {q:Nat} (hs:x.sz<=k+1) (hb:bkn x<=30000) (hr:x.rn) (hn:20*x.sz+50<=q+8)
include hk IH hs hb hr hn
theorem tl_block:TW (100000*x.sz-100) (fun w=>a0g (q+7) (j6.fs (q+7)) x w):=by
 obtain⟨o,s,nn,t,ts,l,a⟩:=x;obtain⟨hrg,hr⟩:=hr;simp only[WN]at hs hb hn ⊢;have ht:=t.H8;have lp1:=c4F (l:=l) (n:=q+7) (o:=o) (nn:=nn) (a:=a) (s:=s) (t:=t) (ts:=ts) zOm IH zOm zOm hr zOm;unfold a0g;exact po
theorem tl_stat:TW (100000*x.sz-100) (fun w=>Y1 (q+7) (j6.fs (q+7)) x w):=by
 obtain⟨o,s,nn,t,ts,l,a⟩:=x;have hL:=I8 l;obtain⟨hrg,hr⟩:=hr;simp only[WN]at hs hb hn ⊢;have ht:=t.H8;have pr1:=fun{y n}=>IH.e (x:=y) (n:=n);have pr2:=fun{t n}=>@b55 t n;have pr3:=fun{y n}=>IH.b (x:=y) (n:=n);have pr4:=fun{y n}=>IH.s (x:=y) (n:=n);have pz1:=fun{n}=>@exp_z n;have pz2:=fun{n}=>@blk_z n;have lp1:=fun{l n} (h1:szN l<=k) (hb:bkN l<=30000) (hr:rnN l) (hn:20*szN l+50<=n)=>tl_arms (l:=l) (n:=n) zOm IH h1 hb hr hn zOm;have fin:=LN;unfold Y1;rcases l with _ |⟨y,_ |⟨z,_ |⟨u,r⟩⟩⟩
 ·simp only[KL,LN,NF];exact po
 ·obtain⟨hr1,hr2⟩:=id hr;simp only[KL,LN,NF];exact po
 ·obtain⟨hr1,hr2,hr3⟩:=id hr;have hr4:=hr.2;simp only[KL,LN,NF];exact po
 obtain⟨hr1,hr2,hr3,hr5⟩:=id hr;have hr4:=hr.2;simp only[KL,LN,L3,NF];exact po
end
theorem tl_all:∀k,k<=20000->TL k
 | 0,_=>⟨fun{x n} h=>absurd x.H8 zOm,fun{x n} h=>absurd x.H8 zOm,fun{x n} h=>absurd x.H8 zOm⟩
 | k+1,hk=>by
  have IH:=tl_all k zOm;refine⟨fun{x n} h hb hr hn=>?_,fun{x n} h hb hr hn=>?_,fun{x n} h hb hr hn=>?_⟩<;>obtain⟨q,rfl⟩:∃q,n=q+8:=⟨n-8,by have:=x.H8;omega⟩
  ·exact tl_expr hk IH h hb hr hn
  ·exact tl_stat hk IH h hb hr hn
  exact tl_block hk IH h hb hr hn
theorem blk_o {x:Nod}{n:Nat}(h1:x.sz<=20000)(hb:bkn x<=30000)(hr:x.rn)(hn:20*x.sz+50<=n):TW (100000*x.sz-100) (fun w=>(j6.fs n).K8 x w):=(tl_all 20000 (Nat.le_refl _)).b h1 hb hr hn
theorem typs_o {l:List Typ}{n:Nat}(h1:szT l<=100000)(h2:bkT l<=30000)(h3:10*szT l+20<=n):TW (100000*szT l) (fun w=>(w9.fs n).Q7 l w):=by
 obtain⟨q,rfl⟩:∃q,n=q+1:=⟨n-1,zOm⟩
 have hL:=a6b l;have pr1:=fun{t n}=>@b55 t n;have lp1:=lpt (l:=l) (c:=fun r=>100000*szT r) (L:=fun m i w=>J2 q (w9.fs q) l m i w) zOm (fun m i x r hx hi g1 g2 g3 ih=>by
  have hx1:=x.H8;have hx2:=a2I hx;have hx3:=b3H hx;simp only[J2.eq_2,g1,g2,g3];exact po) (fun m g1=>by
  simp only[J2.eq_2,g1];exact po) q 0 zOm (Nat.zero_le _)
 simp only[zD]at lp1;show TW _ (fun w=>V8 q (w9.fs q) l w);unfold V8;exact lp1
section
variable {x:Nod} (hs:x.sz<=20000) (hb:bkn x<=30000) (hr:rnN x.l) {n:Nat} (hn:20*x.sz+60<=n)
include hs hb hr hn
theorem bnd_o:TW (100000*x.sz-100000) (fun w=>a0z n x w):=by
 have hx:=x.H8;have ht:=x.t.H8;have hbx:=a6V x;have hL:=I8 x.l;have lp1:=lpt (l:=x.l) (c:=fun r=>100000*szN r) (L:=fun m i w=>X7 n x m i w) zOm (fun m i y r hx hi g1 g2 g3 ih=>by
  have hx1:=y.H8;have hx0:=nd hx hr;obtain⟨hx2,hx3,hx4,hx5⟩:=hx0;simp only[X7.eq_2,g1,g2,g3];exact po) (fun m g1=>by
  simp only[X7.eq_2,g1];exact po) n 0 zOm (Nat.zero_le _)
 simp only[zD]at lp1;unfold a0z;exact po
theorem gen_o:TW (100000*x.sz) (fun w=>a0u n x w):=by
 have hx:=x.H8;have ht:=x.t.H8;have hbx:=a6V x;have pr1:=fun{x n} hs hb hr hn=>@bnd_o x hs hb hr n hn;have lp1:=fun{l:List Nod} (h1:szN l<=szN x.l) (h2:bkN l<=bkN x.l) (hr:rnN l)=>by
  have hL:=I8 l;have lp1:=lpt (l:=l) (c:=fun r=>100000*szN r) (L:=fun m i w=>a0Q n l m i w) zOm (fun m i y r hx hi g1 g2 g3 ih=>by
   have hx1:=y.H8;have hx0:=nd hx hr;obtain⟨hx2,hx3,hx4,hx5⟩:=hx0;simp only[a0Q.eq_2,a0n,g1,g2,g3];exact po) (fun m g1=>by
   simp only[a0Q.eq_2,g1];exact po) n 0 zOm (Nat.zero_le _)
  simp only[zD]at lp1;exact lp1
 unfold a0u a6J;exact po
theorem whr_o:TW (100000*x.sz) (fun w=>a1y n x w):=by
 have hx:=x.H8;have ht:=x.t.H8;have hbx:=a6V x;have pr1:=fun{t n}=>@b55 t n;have pr2:=fun{l n}=>@typs_o l n;have lp1:=fun{l:List Nod} (h1:szN l<=szN x.l) (h2:bkN l<=bkN x.l) (hr:rnN l)=>by
  have hL:=I8 l;have lp1:=lpt (l:=l) (c:=fun r=>100000*szN r) (L:=fun m i w=>Z4 n l m i w) zOm (fun m i y r hx hi g1 g2 g3 ih=>by
   have hx1:=y.H8;have hx0:=nd hx hr;obtain⟨hx2,hx3,hx4,hx5⟩:=hx0;simp only[Z4.eq_2,a1a,g1,g2,g3];exact po) (fun m g1=>by
   simp only[Z4.eq_2,g1];exact po) n 0 zOm (Nat.zero_le _)
  simp only[zD]at lp1;exact lp1
 unfold a1y a5h;exact po
theorem fun_o:TW (900000*x.sz) (fun w=>P6 n x w):=by
 have hx:=x.H8;have ht:=x.t.H8;have hbx:=a6V x;have pr1:=gen_o hs hb hr hn;have pr2:=whr_o hs hb hr hn;have pr3:=fun{t n}=>@b55 t n;have pr4:=fun{l n}=>@tp_par l n;have pr5:=fun{x n}=>@blk_o x n;have lp1:=fun{l:List Nod} (h1:szN l<=szN x.l) (h2:bkN l<=bkN x.l) (hr:rnN l)=>by
  have hL:=I8 l;have lp1:=lpt (l:=l) (c:=fun r=>100000*szN r) (L:=fun m i w=>R5 n m l (l.length:Int) i w) zOm (fun m i y r hx hi g1 g2 g3 ih=>by
   have hx1:=y.H8;have hx0:=nd hx hr;obtain⟨hx2,hx3,hx4,hx5⟩:=hx0;simp only[R5.eq_2,g1,g2,g3];exact po) (fun m g1=>by
   simp only[R5.eq_2,g1];exact po) n 0 zOm (Nat.zero_le _)
  simp only[zD]at lp1;exact lp1
 have lp2:=fun{l:List Nod} (h1:szN l<=szN x.l) (h2:bkN l<=bkN x.l) (hr:rnN l)=>by
  have hL:=I8 l;have lp1:=lpt (l:=l) (c:=fun r=>100000*szN r) (L:=fun m i w=>a0O n l m i w) zOm (fun m i y r hx hi g1 g2 g3 ih=>by
   have hx1:=y.H8;have hx0:=nd hx hr;obtain⟨hx2,hx3,hx4,hx5⟩:=hx0;simp only[a0O.eq_2,g1,g2,g3];exact po) (fun m g1=>by
   simp only[a0O.eq_2,g1];exact po) n 0 zOm (Nat.zero_le _)
  simp only[zD]at lp1;exact lp1
 unfold P6 a07 a2s a08;exact po
theorem mem_o:TW (100000*x.sz) (fun w=>a1X n x w):=by
 obtain⟨o,s,nn,t,ts,l,a⟩:=x;have hx:=t.H8;simp only[WN]at hs hb hn ⊢;have pr1:=fun{x n}=>@blk_o x n;have pr2:=fun{t n}=>@b55 t n;have pr3:=fun{l n}=>@typs_o l n;obtain⟨q,rfl⟩:∃q,n=q+2:=⟨n-2,zOm⟩
 have pz1:=fun{n}=>@blk_z n;have hr0:rnN l:=hr;unfold a1X;cases l with
 | nil =>
  simp only[KL,NF];exact po
 | cons y r =>
  obtain⟨hr1,hr2⟩:=hr0;simp only[KL,NF];exact po
theorem ofm {ops:List Int}(hp:∀y,ofF ops y=[]∨ofF ops y=[y])(ho:ops.length<=3):∃r,a0C n x ops=some r/\szN r<=szN x.l/\bkN r<=bkN x.l/\rnN r:=by
 have hx:=x.H8;have hL:=I8 x.l;refine⟨x.l.flatMap (ofF ops),?_,?_,?_,c4w (fun y hy=>?_) hr⟩
 ·have h1:=of_g (n:=n) (x:=x) (ops:=ops) zOm zOm zOm n 0 [] zOm (Nat.zero_le _) zSi;simp only[List.drop_zero,List.nil_append,Int.natCast_zero]at h1;unfold a0C;rw[h1];rfl
 ·generalize x.l=l;induction l with
  | nil=>exact Nat.le_refl _
  | cons y r ih=>rw[List.flatMap_cons];rcases hp y with h|h<;>rw[h]<;>simp only[WN]<;>omega
 ·generalize x.l=l;induction l with
  | nil=>exact Nat.le_refl _
  | cons y r ih=>rw[List.flatMap_cons];rcases hp y with h|h<;>rw[h]<;>simp only[WN]<;>omega
 obtain⟨z,hz,h⟩:=List.mem_flatMap.1 hy;rcases hp z with e|e<;>rw[e]at h
 ·cases h
 rwa [List.mem_singleton.1 h]
end
theorem mgl (o:Int):(((b6u eqB o (a9t eqB 4 [99,108,97,115,115] (a9t eqB 3 [101,110,117,109] (a9t eqB 2 [115,116,114,117,99,116] [])))).getD []):Str).length<=10:=by
 by_cases h2:o=2<;>by_cases h3:o=3<;>by_cases h4:o=4<;>simp[b6u,a9t,a5M, *]
theorem dec_o {x:Nod}(hs:x.sz<=19000)(hb:bkn x<=30000)(hr:rnN x.l){n:Nat}(hn:20*x.sz+80<=n):TW (2000000*x.sz) (fun w=>O0 n x w):=by
 have hx:=x.H8;have ht:=x.t.H8;have hbx:=a6V x;have hL:=I8 x.l;obtain⟨r1,o1,o2,o3,o4⟩:=ofm (x:=x) (n:=n) (ops:=[13,14,15]) zOm hb hr zOm (fun y=>by simp only[ofF,a5M];by_cases h:y.op=13<;>by_cases h':y.op=14<;>by_cases h2:y.op=15<;>simp_all) zSi;obtain⟨r2,e1,e2,e3,e4⟩:=ofm (x:=x) (n:=n) (ops:=[17,7]) zOm hb hr zOm (fun y=>by simp only[ofF,a5M];by_cases h:y.op=17<;>by_cases h':y.op=7<;>simp_all) zSi;have hL1:=I8 r1;have hL2:=I8 r2;have pr1:=gen_o (x:=x) zOm hb hr (n:=n) zOm;have pr2:=whr_o (x:=x) zOm hb hr (n:=n) zOm;have pr3:=fun{t n}=>@b55 t n;have pr4:=fun{x:Nod} (hs:x.sz<=20000) hb hr=>@fun_o x hs hb hr n;have lp1:TW (100000*szN r1) (fun w=>O1 n n r1 (r1.length:Int) 0 w):=by
  have pr1:=fun{x n} hs hb hr hn=>@mem_o x hs hb hr n hn;have lp1:=lpt (l:=r1) (c:=fun r=>100000*szN r) (L:=fun m i w=>O1 n m r1 (r1.length:Int) i w) zOm (fun m i y r hx hi g1 g2 g3 ih=>by
   have hx1:=y.H8;have hx0:=nd hx o4;obtain⟨hx2,hx3,hx4,hx5⟩:=hx0;simp only[O1.eq_2,g1,g2,g3];exact po) (fun m g1=>by
   simp only[O1.eq_2,g1];exact po) n 0 zOm (Nat.zero_le _)
  simp only[zD]at lp1;exact lp1
 have lp2:TW (1000000*szN r2) (fun w=>P9 n r2 n 0 w):=by
  have lp1:=lpt (l:=r2) (c:=fun r=>1000000*szN r) (L:=fun m i w=>P9 n r2 m i w) zOm (fun m i y r hx hi g1 g2 g3 ih=>by
   have hx1:=y.H8;have hx0:=nd hx e4;obtain⟨hx2,hx3,hx4,hx5⟩:=hx0;simp only[P9.eq_2,g1,g2,g3];exact po) (fun m g1=>by
   simp only[P9.eq_2,g1];exact po) n 0 zOm (Nat.zero_le _)
  simp only[zD]at lp1;exact lp1
 have lp3:TW (1000000*szN x.l) (fun w=>P8 n x n 0 w):=by
  have pr1:=fun{x n} hs hb hr hn=>@bnd_o x hs hb hr n hn;have lp1:=lpt (l:=x.l) (c:=fun r=>1000000*szN r) (L:=fun m i w=>P8 n x m i w) zOm (fun m i y r hx hi g1 g2 g3 ih=>by
   have hx1:=y.H8;have hx0:=nd hx hr;obtain⟨hx2,hx3,hx4,hx5⟩:=hx0;simp only[P8.eq_2,g1,g2,g3];exact po) (fun m g1=>by
   simp only[P8.eq_2,g1];exact po) n 0 zOm (Nat.zero_le _)
  simp only[zD]at lp1;exact lp1
 have fin:=And.intro o1 e1;have hm:(((b6u eqB x.op (a9t eqB 4 [99,108,97,115,115] (a9t eqB 3 [101,110,117,109] (a9t eqB 2 [115,116,114,117,99,116] [])))).getD []):Str).length<=10:=mgl x.op;unfold O0;exact po
end Go.Proofs.YtimgnjbjbdgmaaaGreatDoor
