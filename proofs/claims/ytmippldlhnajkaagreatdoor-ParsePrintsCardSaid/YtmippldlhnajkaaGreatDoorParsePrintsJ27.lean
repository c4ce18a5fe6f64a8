/- Texts of ParsePrints, joined. -/
import Derived.Test.YtmippldlhnajkaaGreatDoorParsePrintsJ26
set_option maxRecDepth 100000
set_option maxHeartbeats 20000000
set_option linter.unusedSimpArgs false
set_option linter.unusedVariables false
set_option linter.unusedSectionVars false
namespace Go.Proofs.YtmippldlhnajkaaGreatDoor
open Go Go.Vm Pr
section
variable {op:Int} {s:Str} {nn:Int} {t:Typ} {ts:List Typ} {l:List Nod} {a:Int} (hb:(⟨op,s,nn,t,ts,l,a⟩:Nod).bd) (hs:1+t.sz+szT ts+szN l<=1000000) (H:∀y:Nod,y.sz<1+t.sz+szT ts+szN l->y.bd->KE y/\KS y/\KM y) {n:Nat} (w:List Str)
include hb hs H
theorem comp_tot {y:Nod}{r:List Nod}(hl:l=y::r)(hn:40*(1+t.sz+szT ts+szN l)+30<=n)(hw:wt w+100000*(1+t.sz+szT ts+szN l)<=2000000000000):S1 (T1 30000 (100000*(1+t.sz+szT ts+szN l)) w) ((j6.fs n).a0l w ⟨op,s,nn,t,ts,l,a⟩):=by
 subst hl;obtain⟨b1,b2,b3,b4,b5⟩:=hb;have hll:=G5 (y::r);have hAs:=hAB (y::r);have hty:=t.S9;simp only[K6,List.length_cons]at hs H hn hw hll hAs ⊢;have hyb:=Y4 b5 (List.mem_cons_self ..);have ih4:=b86 (n:=n-1) (x:=⟨op,s,nn,t,ts,y::r,a⟩) ⟨b1,b2,b3,b4,b5⟩ (by simp only[SZ];omega) (by simp only[SZ];omega);have ih5:=c8C (n:=n-1) b3 (by omega) (by omega);simp only at ih4;have ih1:=fun w=>(H y (by omega) hyb).1 (n-1) w (by omega);have ih2:=fun{b:Bool}=>c5D (n:=n-1) (H y (by omega) hyb).1 (by omega) b;have ih3:=c0T (n:=n-1) (l:=r) (fun z hz=>(H z (by have:=I5 hz;omega) (Y4 b5 (List.mem_cons_of_mem _ hz))).1) (by omega) (by omega);have ih6:=lpo (l:=y::r) (c:=fun y=>szN y.l) (s:=hB) rfl (fun _ _=>rfl) (by simp only[List.length_cons];omega) (L:=fun m i w=>P7 (n-1) (j6.fs (n-1)) ⟨op,s,nn,t,ts,y::r,a⟩ m w i) (fun m i k y w hy hi c1 c2 c3 ih1 hw=>by
  have hsy:=I5 hy;have hzy:=y.S9;simp only[K6]at hsy;rw[P7.eq_2];simp only[c1,c2,NF,CD];refine t_if (fun _=>?_) (fun _=>?_)
  ·have hyl:=G5 y.l;obtain⟨⟨u1,u2⟩,e,e1,e2⟩:=c73 (n:=n-1) (Φ:=j6.fs (n-1)) (Y:=⟨op,s,nn,t,ts,_::r,a⟩) (X:=y) (i:=i) c2 (by omega) (fun z hz w hw=>by
    have:=I5 hz;exact(H z (by omega) (Y4 (y.a4w.1 (Y4 b5 hy)).2.2.2.2 hz)).2.1 (n-1) w (by omega) hw) (n-1) 0 w (by omega) (Nat.zero_le _) (by rw[List.drop_zero];omega)
   rw[List.drop_zero]at e2;rw[Int.natCast_zero]at e;have e1:u2 =(i:Int):=e1;have e2:wt u1+0<=wt w+100000*szN y.l:=e2;simp only[e,NF,e1,c3];exact o_w (ih1 _ (by omega)) fun x h=>by omega
  ·simp only[NF,c3];exact o_w (ih1 _ (by omega)) fun x h=>by omega) (fun m w c1 c2 c3=>by
  rw[P7.eq_2];exact tot) (n:=n-1) (by simp only[List.length_cons];omega)
 obtain⟨lb,hlb⟩:=c9h y;have fin:a3n y=some lb/\idx' (y::r) 0=some y/\b2x (y::r) 1 (((y::r).length:Nat):Int)=some r:=⟨hlb,O3 (l:=y::r) (i:=0) (by simp),by
  have:=b6l (l:=y::r) (a:=1) (b:=(y::r).length) (by simp) (Nat.le_refl _);rw[List.take_length]at this;exact this⟩
 rw[fd2 n (by omega)];unfold a1j;rcases r with _ |⟨z,r⟩
 ·have fin:=And.intro fin (O8 (show ¬(1:Int)<(([y]:List Nod).length:Nat)by simp));exact tot
 ·simp only[K6]at hs hn hw hAs ⊢;have ih7:=fun w=>(H z (by simp only[K6];omega) (Y4 b5 (by simp))).1 (n-1) w (by omega);have fin:=And.intro fin (And.intro (R4 (show(1:Int)<((y::z::r:List Nod).length:Nat)by simp only[List.length_cons];omega)) (O3 (l:=y::z::r) (i:=1) (by simp)));simp only[List.getElem_cons_succ,List.getElem_cons_zero,Int.natCast_one]at fin;simp only[K6]at ih3;exact tot
theorem spok_tot (hn:40*(1+t.sz+szT ts+szN l)+40<=n)(hw:wt w+100000*(1+t.sz+szT ts+szN l)<=2000000000000):S1 (T1 30000 (100000*(1+t.sz+szT ts+szN l)) w) ((j6.fs n).F9 w ⟨op,s,nn,t,ts,l,a⟩):=by
 have hc:=fun{y r} w h=>comp_tot hb hs H (n:=n-1) w (y:=y) (r:=r) h (by omega);obtain⟨b1,b2,b3,b4,b5⟩:=hb;have hll:=G5 l;have hty:=t.S9;have hi:=b3A (b65 b2);have fin:=And.intro (itoas b2) (show a4H nn=cond (eqB nn 1) (some [116,114,117,101]) (some [102,97,108,115,101])from rfl);have ih1:=typd (n:=n-1) b3 (by omega) (by omega);have ih2:=c0T (n:=n-1) (l:=l) (fun z hz=>(H z (by have:=I5 hz;omega) (Y4 b5 hz)).1) (by omega) (by omega);have ih3:=lpo (l:=l) (c:=Nod.sz) (s:=szN) Q8 K6 (by omega) (L:=fun m i w=>a2j (n-1) (j6.fs (n-1)) ⟨op,s,nn,t,ts,l,a⟩ m w i) (fun m i k y w hy hi c1 c2 c3 ih1 hw=>by
  have hsy:=I5 hy;have hzy:=y.S9;have ih2:=fun w=>(H y (by omega) (Y4 b5 hy)).1 (n-1) w (by omega);obtain⟨y1,_⟩:=y.a4w.1 (Y4 b5 hy);have fin:(∀p:Option (List Str),gdO (!eqB 2 0) p=p):=fun p=>by rw[a0i (by omega)];rfl
  rw[a2j.eq_2];exact tot) (fun m w c1 c2 c3=>by
  rw[a2j.eq_2];exact tot) (n:=n-1) (by omega)
 have ih4:=lpo (l:=l) (c:=Nod.sz) (s:=szN) Q8 K6 (by omega) (L:=fun m i w=>a2k (n-1) (j6.fs (n-1)) ⟨op,s,nn,t,ts,l,a⟩ m w i) (fun m i k y w hy hi c1 c2 c3 ih1 hw=>by
  have hsy:=I5 hy;have hzy:=y.S9;have ih2:=fun w=>(H y (by omega) (Y4 b5 hy)).1 (n-1) w (by omega);rw[a2k.eq_2];exact tot) (fun m w c1 c2 c3=>by
  rw[a2k.eq_2];exact tot) (n:=n-1) (by omega)
 rw[fd1 n (by omega)];unfold a0n;rcases l with _ |⟨y,r⟩
 ·have fin:=And.intro fin (a1s (show((([]:List Nod).length:Nat):Int)=0 by simp));exact tot
 ·have ih5:=fun w=>hc (y:=y) (r:=r) w rfl;have fin:=And.intro fin (a0i (show ¬(((y::r:List Nod).length:Nat):Int)=0 by simp only[List.length_cons];omega));exact tot
theorem bran_tot (hn:40*(1+t.sz+szT ts+szN l)+30<=n)(hw:wt w+100000*(1+t.sz+szT ts+szN l)<=2000000000000):S1 (T1 30000 (100000*(1+t.sz+szT ts+szN l)) w) ((j6.fs n).a0k w ⟨op,s,nn,t,ts,l,a⟩):=by
 obtain⟨b1,b2,b3,b4,b5⟩:=hb;have hll:=G5 l;have hty:=t.S9;have ih1:=lpo (l:=l) (c:=Nod.sz) (s:=szN) Q8 K6 (by omega) (L:=fun m i w=>a0v (n-1) (j6.fs (n-1)) ⟨op,s,nn,t,ts,l,a⟩ m w i) (fun m i k y w hy hi c1 c2 c3 ih1 hw=>by
  have hsy:=I5 hy;have hzy:=y.S9;have ih2:=fun w=>(H y (by omega) (Y4 b5 hy)).1 (n-1) w (by omega);have ih3:=fun w=>(H y (by omega) (Y4 b5 hy)).2.1 (n-1) w (by omega);rw[a0v.eq_2];exact tot) (fun m w c1 c2 c3=>by
  rw[a0v.eq_2];exact tot) (n:=n-1) (by omega)
 have ih2:=lpo (l:=l) (c:=Nod.sz) (s:=szN) Q8 K6 (by omega) (L:=fun m i w=>Y1 (n-1) (j6.fs (n-1)) ⟨op,s,nn,t,ts,l,a⟩ m w i) (fun m i k y w hy hi c1 c2 c3 ih1 hw=>by
  have hsy:=I5 hy;have hyb:=Y4 b5 hy;have ih2:=fun w=>(H y (by omega) hyb).1 (n-1) w (by omega);rw[Y1.eq_2];obtain⟨yo,ys,yn,yt,yts,yl,ya⟩:=y;simp only[SZ]at hsy hw ih2 ⊢;have hyb:=hyb.2.2.2.2;rcases yl with _ |⟨p,_ |⟨b,_ |⟨q,r⟩⟩⟩
  ·have fin:=a0i (show ¬((([]:List Nod).length:Nat):Int)=2 by simp);exact tot
  ·have fin:=a0i (show ¬((([p]:List Nod).length:Nat):Int)=2 by simp);exact tot
  ·simp only[K6,Q8]at hsy hw ih2 ⊢;have ih3:=fun w=>(H p (by omega) (Y4 hyb (by simp))).2.2 (n-1) w (by omega);have ih4:=fun w=>(H b (by omega) (Y4 hyb (by simp))).2.1 (n-1) w (by omega);have fin:=And.intro (a1s (show((([p,b]:List Nod).length:Nat):Int)=2 by simp)) (And.intro (O3 (l:=[p,b]) (i:=0) (by simp)) (O3 (l:=[p,b]) (i:=1) (by simp)));simp only[List.getElem_cons_succ,List.getElem_cons_zero,Int.natCast_one,Int.natCast_zero]at fin;exact tot
  ·have fin:=a0i (show ¬(((p::b::q::r:List Nod).length:Nat):Int)=2 by simp only[List.length_cons];omega);exact tot) (fun m w c1 c2 c3=>by
  rw[Y1.eq_2];exact tot) (n:=n-1) (by omega)
 have ih3:=lpo (l:=l) (c:=Nod.sz) (s:=szN) Q8 K6 (by omega) (L:=fun m i w=>a1e (n-1) (j6.fs (n-1)) ⟨op,s,nn,t,ts,l,a⟩ m w i) (fun m i k y w hy hi c1 c2 c3 ih1 hw=>by
  have hsy:=I5 hy;have hzy:=y.S9;have ih3:=fun w=>(H y (by omega) (Y4 b5 hy)).2.1 (n-1) w (by omega);rw[a1e.eq_2];exact tot) (fun m w c1 c2 c3=>by
  rw[a1e.eq_2];exact tot) (n:=n-1) (by omega)
 have ih4:=lpo (l:=l) (c:=Nod.sz) (s:=szN) Q8 K6 (by omega) (L:=fun m i w=>a1f (n-1) (j6.fs (n-1)) ⟨op,s,nn,t,ts,l,a⟩ m w i) (fun m i k y w hy hi c1 c2 c3 ih1 hw=>by
  have hsy:=I5 hy;have hzy:=y.S9;have ih3:=fun w=>(H y (by omega) (Y4 b5 hy)).2.1 (n-1) w (by omega);rw[a1f.eq_2];exact tot) (fun m w c1 c2 c3=>by
  rw[a1f.eq_2];exact tot) (n:=n-1) (by omega)
 rw[fd4 n (by omega)];unfold a0I;exact tot
theorem stat_tot (hn:40*(1+t.sz+szT ts+szN l)+40<=n)(hw:wt w+100000*(1+t.sz+szT ts+szN l)<=2000000000000):S1 (T1 30000 (100000*(1+t.sz+szT ts+szN l)) w) ((j6.fs n).I6 w ⟨op,s,nn,t,ts,l,a⟩):=by
 have ih6:=fun w=>bran_tot hb hs H (n:=n-1) w (by omega);obtain⟨b1,b2,b3,b4,b5⟩:=hb;have hll:=G5 l;have hty:=t.S9;have ih1:=typd (n:=n-1) b3 (by omega) (by omega);have ih2:=lpo (l:=l) (c:=Nod.sz) (s:=szN) Q8 K6 (by omega) (L:=fun m i w=>a2M (n-1) (j6.fs (n-1)) ⟨op,s,nn,t,ts,l,a⟩ m w i) (fun m i k y w hy hi c1 c2 c3 ih1 hw=>by
  have hsy:=I5 hy;have hzy:=y.S9;have ih3:=fun w=>(H y (by omega) (Y4 b5 hy)).2.1 (n-1) w (by omega);rw[a2M.eq_2];exact tot) (fun m w c1 c2 c3=>by
  rw[a2M.eq_2];exact tot) (n:=n-1) (by omega)
 have ih3:=lpo (l:=l) (c:=Nod.sz) (s:=szN) Q8 K6 (by omega) (L:=fun m i w=>a0K (n-1) (j6.fs (n-1)) ⟨op,s,nn,t,ts,l,a⟩ m w i) (fun m i k y w hy hi c1 c2 c3 ih1 hw=>by
  have hsy:=I5 hy;have hzy:=y.S9;have ih2:=fun w=>(H y (by omega) (Y4 b5 hy)).1 (n-1) w (by omega);rw[a0K.eq_2];exact tot) (fun m w c1 c2 c3=>by
  rw[a0K.eq_2];exact tot) (n:=n-1) (by omega)
 have ih4:=lpo (l:=l) (c:=Nod.sz) (s:=szN) Q8 K6 (by omega) (L:=fun m i w=>a2l (n-1) (j6.fs (n-1)) ⟨op,s,nn,t,ts,l,a⟩ m w i) (fun m i k y w hy hi c1 c2 c3 ih1 hw=>by
  have hsy:=I5 hy;have hzy:=y.S9;have ih2:=fun w=>(H y (by omega) (Y4 b5 hy)).1 (n-1) w (by omega);rw[a2l.eq_2];exact tot) (fun m w c1 c2 c3=>by
  rw[a2l.eq_2];exact tot) (n:=n-1) (by omega)
 have ih5:=lpo (l:=l) (c:=Nod.sz) (s:=szN) Q8 K6 (by omega) (L:=fun m i w=>a0L (n-1) (j6.fs (n-1)) ⟨op,s,nn,t,ts,l,a⟩ m w i) (fun m i k y w hy hi c1 c2 c3 ih1 hw=>by
  have hsy:=I5 hy;have hzy:=y.S9;have ih2:=fun w=>(H y (by omega) (Y4 b5 hy)).1 (n-1) w (by omega);rw[a0L.eq_2];exact tot) (fun m w c1 c2 c3=>by
  rw[a0L.eq_2];exact tot) (n:=n-1) (by omega)
 rw[fd3 n (by omega)];unfold Q7;exact tot
theorem matc_tot (hn:40*(1+t.sz+szT ts+szN l)+40<=n)(hw:wt w+100000*(1+t.sz+szT ts+szN l)<=2000000000000):S1 (T1 30000 (100000*(1+t.sz+szT ts+szN l)) w) ((G6.fs n).T9 w ⟨op,s,nn,t,ts,l,a⟩):=by
 obtain⟨b1,b2,b3,b4,b5⟩:=hb;have hll:=G5 l;have hty:=t.S9;have hi:=b3A (b65 b2);have hi2:(List.drop 1 (Lib.itoa nn)).length<=30:=by rw[List.length_drop];omega
 have fin:=And.intro (itoas b2) (And.intro (sub1 b2) (show a4H nn=cond (eqB nn 1) (some [116,114,117,101]) (some [102,97,108,115,101])from rfl));have ih1:=lpo (l:=l) (c:=Nod.sz) (s:=szN) Q8 K6 (by omega) (L:=fun m i w=>X8 (n-1) (G6.fs (n-1)) ⟨op,s,nn,t,ts,l,a⟩ m w i) (fun m i k y w hy hi c1 c2 c3 ih1 hw=>by
  have hsy:=I5 hy;have hzy:=y.S9;have ih2:=fun w=>(H y (by omega) (Y4 b5 hy)).2.2 (n-1) w (by omega);rw[X8.eq_2];exact tot) (fun m w c1 c2 c3=>by
  rw[X8.eq_2];exact tot) (n:=n-1) (by omega)
 rw[fd5 n (by omega)];unfold a1Q;exact tot
end
theorem c1N:∀(k:Nat) (x:Nod),x.sz<=k->x.sz<=1000000->x.bd->KE x/\KS x/\KM x
 | 0,x,h,_,_=>by have:=x.S9;omega
 | k+1,⟨op,s,nn,t,ts,l,a⟩,h,hs,hb=>by
  simp only[SZ]at h hs;have H:∀y:Nod,y.sz<1+t.sz+szT ts+szN l->y.bd->KE y/\KS y/\KM y:=fun y h1 h2=>c1N k y (by omega) (by omega) h2;refine⟨fun n w h1 h2=>?_,fun n w h1 h2=>?_,fun n w h1 h2=>?_⟩<;>simp only[SZ]at h1 h2 ⊢
  ·exact spok_tot hb hs H w h1 h2
  ·exact stat_tot hb hs H w h1 h2
  ·exact matc_tot hb hs H w h1 h2
end Go.Proofs.YtmippldlhnajkaaGreatDoor
