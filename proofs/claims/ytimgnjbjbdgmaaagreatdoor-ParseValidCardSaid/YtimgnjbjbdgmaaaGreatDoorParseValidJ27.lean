/- Texts of ParseValid, joined. -/
import Derived.Test.YtimgnjbjbdgmaaaGreatDoorParseValidJ26
set_option maxRecDepth 100000
set_option maxHeartbeats 20000000
set_option linter.all false
namespace Go.Proofs.YtimgnjbjbdgmaaaGreatDoor
open Go Go.Vm Pr
theorem o_idT {l:List Typ}{A B:Type}{Q:A->B->Prop}{R:Option B}{f:Typ->Option A}(hc:ltB 0 (l.length:Int)=true)(g:∀y,y.sz<=szT l->bkt y<=bkT l->S2 Q (f y) R):S2 Q ((idx' l 0).bind f) R:=o_idx hc zOm fun y hy=>g y (a2I hy) (b3H hy)
section
variable {x:Nod} (hs:x.sz<=20000) (hb:bkn x<=30000) (hr:rnN x.l) {n:Nat} (hn:20*x.sz+60<=n)
include hs hb hr hn
theorem bnd_d:TW (100000*x.ms) (fun w=>a5a n w x):=by
 have hx:=x.H8;have ht:=x.t.H8;have hbx:=a6V x;have hL:=I8 x.l;have lp1:=lpt (l:=x.l) (c:=fun r=>100000*szN r) (L:=fun m i w=>a1N n x m w i) zOm (fun m i y r hx hi g1 g2 g3 ih=>by
  have hx1:=y.H8;have hx0:=nd hx hr;obtain⟨hx2,hx3,hx4,hx5⟩:=hx0;have hm:=a6p y;have hK:=a9U;simp only[a1N.eq_2,g1,g2,g3];exact po) (fun m g1=>by
  simp only[a1N.eq_2,g1];exact po) n 0 zOm (Nat.zero_le _)
 simp only[zD]at lp1;rw[Nod.ms];unfold a5a;exact po
theorem gen_d:TW (100000*x.sz) (fun w=>a2L n w x):=by
 have hx:=x.H8;have ht:=x.t.H8;have hbx:=a6V x;have pr1:=fun{x n} hs hb hr hn=>@bnd_d x hs hb hr n hn;have lp1:=fun{l:List Nod} (h1:szN l<=szN x.l) (h2:bkN l<=bkN x.l) (hr:rnN l)=>by
  have hL:=I8 l;have lp1:=lpt (l:=l) (c:=fun r=>100000*szN r) (L:=fun m i w=>a0D n l m w i) zOm (fun m i y r hx hi g1 g2 g3 ih=>by
   have hx1:=y.H8;have hx0:=nd hx hr;obtain⟨hx2,hx3,hx4,hx5⟩:=hx0;have hm:=a6p y;have hK:=a9U;simp only[a0D.eq_2,g1,g2,g3];exact po) (fun m g1=>by
   simp only[a0D.eq_2,g1];exact po) n 0 zOm (Nat.zero_le _)
  simp only[zD]at lp1;exact lp1
 unfold a2L;exact po
theorem whr_d:TW (100000*x.sz) (fun w=>a4k n w x):=by
 have hx:=x.H8;have ht:=x.t.H8;have hbx:=a6V x;have pr1:=fun{t n}=>@b45 t n;have pr2:=@o_idT;have lp1:=fun{l:List Nod} (h1:szN l<=szN x.l) (h2:bkN l<=bkN x.l) (hr:rnN l)=>by
  have hL:=I8 l;have lp1:=lpt (l:=l) (c:=fun r=>100000*szN r) (L:=fun m i w=>a0J n l m w i) zOm (fun m i y r hx hi g1 g2 g3 ih=>by
   have hx1:=y.H8;have hx0:=nd hx hr;obtain⟨hx2,hx3,hx4,hx5⟩:=hx0;have hm:=a6p y;have hK:=a9U;simp only[a0J.eq_2,g1,g2,g3];exact po) (fun m g1=>by
   simp only[a0J.eq_2,g1];exact po) n 0 zOm (Nat.zero_le _)
  simp only[zD]at lp1;exact lp1
 unfold a4k;exact po
theorem fun_d:TW (900000*x.sz) (fun w=>a1B n w x):=by
 have hx:=x.H8;have ht:=x.t.H8;have hbx:=a6V x;have pr1:=gen_d hs hb hr hn;have pr2:=whr_d hs hb hr hn;have pr3:=fun{t n}=>@b45 t n;have pr4:=fun{l n}=>@tr_par l n;have pr5:=fun{x n}=>@sta_r x n;have lp1:=fun{l:List Nod} (h1:szN l<=szN x.l) (h2:bkN l<=bkN x.l) (hr:rnN l)=>by
  have hL:=I8 l;have lp1:=lpt (l:=l) (c:=fun r=>100000*szN r) (L:=fun m i w=>a0H n l m w i) zOm (fun m i y r hx hi g1 g2 g3 ih=>by
   have hx1:=y.H8;have hx0:=nd hx hr;obtain⟨hx2,hx3,hx4,hx5⟩:=hx0;have hm:=a6p y;have hK:=a9U;simp only[a0H.eq_2,g1,g2,g3];exact po) (fun m g1=>by
   simp only[a0H.eq_2,g1];exact po) n 0 zOm (Nat.zero_le _)
  simp only[zD]at lp1;exact lp1
 have lp2:=fun{l:List Nod} (h1:szN l<=szN x.l) (h2:bkN l<=bkN x.l) (hr:rnN l)=>by
  have hL:=I8 l;have lp1:=lpt (l:=l) (c:=fun r=>100000*szN r) (L:=fun m i w=>a3M n l m w i) zOm (fun m i y r hx hi g1 g2 g3 ih=>by
   have hx1:=y.H8;have hx0:=nd hx hr;obtain⟨hx2,hx3,hx4,hx5⟩:=hx0;have hm:=a6p y;have hK:=a9U;simp only[a3M.eq_2,g1,g2,g3];exact po) (fun m g1=>by
   simp only[a3M.eq_2,g1];exact po) n 0 zOm (Nat.zero_le _)
  simp only[zD]at lp1;exact lp1
 unfold a1B a4V a5Z;exact po
theorem mem_d:TW (1000000*x.sz) (fun w=>a2n n w x):=by
 have hx:=x.H8;have ht:=x.t.H8;have hbx:=a6V x;have hL:=I8 x.l;have hT:=a6b x.ts;have hm:=a6p x;have pr1:=fun_d hs hb hr hn;have pr2:=bnd_d hs hb hr hn;have pr3:=fun{t n}=>@b45 t n;have lp2:TW (100000*szN x.l) (fun w=>a2E n x n w 0):=by
  have pr5:=fun{x n}=>@sta_r x n;have lp1:=lpt (l:=x.l) (c:=fun r=>100000*szN r) (L:=fun m i w=>a2E n x m w i) zOm (fun m i y r hx hi g1 g2 g3 ih=>by
   have hx1:=y.H8;have hx0:=nd hx hr;obtain⟨hx2,hx3,hx4,hx5⟩:=hx0;have hm:=a6p y;have hK:=a9U;simp only[a2E.eq_2,g1,g2,g3];exact po) (fun m g1=>by
   simp only[a2E.eq_2,g1];exact po) n 0 zOm (Nat.zero_le _)
  simp only[zD]at lp1;exact lp1
 have lp1:=lpt (l:=x.ts) (c:=fun r=>100010*szT r) (L:=fun m i w=>a01 n x m w i) zOm (fun m i y r hx hi g1 g2 g3 ih=>by
  have hx1:=y.H8;have hx2:=a2I hx;have hx3:=b3H hx;simp only[a01.eq_2,g1,g2,g3];exact po) (fun m g1=>by
  simp only[a01.eq_2,g1];exact po) n 0 zOm (Nat.zero_le _)
 simp only[zD]at lp1;unfold a2n;exact po
end
theorem dec_d {x:Nod}(hs:x.sz<=19000)(hb:bkn x<=30000)(hr:rnN x.l){n:Nat}(hn:20*x.sz+80<=n):TW (2000000*x.sz) (fun w=>(a2g n w x).bind fun r=>some r.1):=by
 have hx:=x.H8;have ht:=x.t.H8;have hbx:=a6V x;have hL:=I8 x.l;have pr1:=gen_d (x:=x) zOm hb hr (n:=n) zOm;have pr2:=whr_d (x:=x) zOm hb hr (n:=n) zOm;have pr3:=fun{t n}=>@b45 t n;have pr4:=fun_d (x:=x) zOm hb hr (n:=n) zOm;have lp2:TW (1000000*szN x.l) (fun w=>K3 n x n w 0):=by
  have pr1:=fun{x n} hs hb hr hn=>@mem_d x hs hb hr n hn;have lp1:=lpt (l:=x.l) (c:=fun r=>1000000*szN r) (L:=fun m i w=>K3 n x m w i) zOm (fun m i y r hx hi g1 g2 g3 ih=>by
   have hx1:=y.H8;have hx0:=nd hx hr;obtain⟨hx2,hx3,hx4,hx5⟩:=hx0;have hm:=a6p y;have hK:=a9U;simp only[K3.eq_2,g1,g2,g3];exact po) (fun m g1=>by
   simp only[K3.eq_2,g1];exact po) n 0 zOm (Nat.zero_le _)
  simp only[zD]at lp1;exact lp1
 unfold a2g;exact po
end Go.Proofs.YtimgnjbjbdgmaaaGreatDoor
