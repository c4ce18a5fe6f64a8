/- Texts of ParsePrints, joined. -/
import Derived.Test.YtmippldlhnajkaaGreatDoorParsePrintsJ25
set_option maxRecDepth 100000
set_option maxHeartbeats 20000000
set_option linter.unusedSimpArgs false
set_option linter.unusedVariables false
set_option linter.unusedSectionVars false
namespace Go.Proofs.YtmippldlhnajkaaGreatDoor
open Go Go.Vm Pr
def DB (x:Nod):Prop:=∃s a,x =⟨9,s,0,zT,[],[],a⟩/\s.length<=20000
def DG (x:Nod):Prop:=∃s bs a,x =⟨8,s,0,zT,[],bs,a⟩/\s.length<=20000 /\ ∀y∈bs,DB y
def DQ (x:Nod):Prop:=(∃t s a,x =⟨12,s,1,t,[],[],a⟩/\GT t/\s.length<=20000) ∨ ∃t u a,x =⟨12,[],2,t,[u],[],a⟩/\GT t/\GT u
def DW (x:Nod):Prop:=∃t a,x =⟨11,[],0,t,[],[],a⟩/\GT t
inductive DF:Int->Nod->Prop
 | mk {k:Int} {s:Str} {t:Typ} {gs ps ws qs bs:List Nod} {a:Int}:s.length<=20000->GT t ->(∀y∈gs,DG y) ->(∀y∈ps,G 4 y) ->(∀y∈ws,DW y) ->(∀y∈qs,DQ y) ->(∀y∈bs,G 2 y) ->(k=1∨k=0/\bs=[])->DF k ⟨7,s,k,t,[],gs ++(ps ++(ws ++(qs++bs))),a⟩
theorem lp2 {α:Type}{l:List α}{c:α->Nat}{s:List α->Nat}{i0:Nat}(hs0:s []=0)(hs:∀x r,s (x::r)=c x+s r)(hL:l.length<=1000000000){L R:Nat->Int->List Str->Option (List Str)}
  (hS:∀(m m' i k:Nat) (x:α) (w:List Str),x∈l->i0<=i->i<l.length->ltB (i:Int) (l.length:Int)=true->idx' l (i:Int)=some x->w64 ((i:Int)+1) =((i+1:Nat):Int) ->(∀w',wt w'+100000*k+2<=2000000000000->S2 (E2 0 (100000*k) w') (L m ((i+1:Nat):Int) w') (R m' ((i+1:Nat):Int) w'))->wt w+100000*(c x+k)+2<=2000000000000 ->(i0=0/\ltB 0 (i:Int)=false/\eqB (i:Int) 0=true∨ltB 0 (i:Int)=true/\eqB (i:Int) 0=false)->S2 (E2 0 (100000*(c x+k)) w) (L (m+1) i w) (R (m'+1) i w))
  (hE:∀(m m':Nat) (w:List Str),ltB (l.length:Int) (l.length:Int)=false->wt w+2<=2000000000000->S2 (E2 0 0 w) (L (m+1) (l.length:Int) w) (R (m'+1) (l.length:Int) w)) :
  ∀(m m' i:Nat) (w:List Str),l.length<m+i->l.length<m'+i->i<=l.length->i0<=i->wt w+100000*s (l.drop i)+2<=2000000000000->S2 (E2 0 (100000*s (l.drop i)) w) (L m i w) (R m' i w)
 | 0,_,_,_,_,_,_,_,_=>by omega
 | _+1,0,_,_,_,_,_,_,_=>by omega
 | m+1,m'+1,i,w,h1,h2,h3,h0,h4=>by
  rcases Nat.lt_or_ge i l.length with h|h
  ·have hd:=drop_eq h;rw[hd,hs]at h4 ⊢;refine hS m m' i _ l[i] w (List.getElem_mem h) h0 h (R4 (by omega)) (O3 h) (L6 (by omega)) (fun w' hw=>lp2 hs0 hs hL hS hE m m' (i+1) w' (by omega) (by omega) (by omega) (by omega) hw) h4 ?_;rcases Nat.eq_zero_or_pos i with rfl|hi
   ·exact .inl ⟨by omega,O8 (by omega),a1s rfl⟩
   ·exact .inr ⟨R4 (by omega),a0i (by omega)⟩
  ·have:i=l.length:=by omega
   subst this;rw[List.drop_length,hs0]at h4 ⊢;exact hE m m' w (O8 (by omega)) (by omega)
theorem pd {P:Prop}(x:P:=by
 rcases hz with⟨z0,z1,z2⟩ |⟨z1,z2⟩<;>simp only[c1,c2,c3,z1,z2,NF]<;>exact pt):P:=x
theorem flt {l:List Nod}{o q:Int}(h:∀y∈l,y.op=o):(l.filter fun y=>eqB y.op q)=cond (eqB o q) l []:=by
 rcases Classical.em (o=q)with rfl|hq
 ·rw[a1s rfl];exact List.filter_eq_self.2 fun y hy=>a1s (h y hy)
 ·rw[a0i hq];exact List.filter_eq_nil_iff.2 fun y hy=>by rw[a0i (by rw[h y hy];exact hq)];simp
section
variable {n n':Nat} {w:List Str}
theorem b6w {x:Nod}(H:∀y∈x.l,DB y)(h1:szN x.l+3<=n)(h2:szN x.l+3<=n')(hw:wt w+100000*szN x.l+2<=2000000000000):S2 (E2 0 (100000*szN x.l) w) (a1G n x w) (a3m n' w x):=by
 have hl:=G5 x.l;have ih1:=fun w=>lp2 (l:=x.l) (i0:=0) Q8 K6 (by omega) (L:=fun m i w=>a1u n x m i w) (R:=fun m i w=>a1i n' x m w i) (fun m m' i k y w hy hi hj c1 c2 c3 ih1 hw hz=>by
  obtain⟨s,a,rfl,hs⟩:=H y hy;simp only[SZ]at hw ⊢;simp only[a1u.eq_2,a1i.eq_2];exact pd) (fun m m' w c1 hw=>by
  simp only[a1u.eq_2,a1i.eq_2,c1];exact pt) n n' 0 w (by omega) (by omega) (Nat.zero_le _) (Nat.zero_le _)
 simp only[List.drop_zero,Int.natCast_zero]at ih1;unfold a1G a3m;simp only[BSm];exact ih1 w hw
theorem gen_ok {x:Nod}{gs:List Nod}(hl:x.l.length<=1000000)(hf:(x.l.filter fun y=>eqB y.op 8)=gs)(H:∀y∈gs,DG y)(h1:x.l.length+szN gs+5<=n)(h2:x.l.length+szN gs+5<=n')(hw:wt w+100000*szN gs+4<=2000000000000):S2 (E2 0 (100000*szN gs+4) w) (a0t n x w) (a03 n' w x):=by
 have hl2:=G5 gs;unfold a0t a03;rw[(ofs (o:=8) (n:=n) (x:=x) (by omega) (by omega)).1,(ofs (o:=8) (n:=n') (x:=x) (by omega) (by omega)).2,hf];rcases gs with _ |⟨g,r⟩
 ·obtain⟨q,rfl⟩:∃q,n'=q+1:=⟨n'-1,by omega⟩
  simp only[R9.eq_2,List.length_nil,Int.natCast_zero,NF,a1s,O8 (show ¬(0:Int)<0 by omega)];exact pt
 ·simp only[K6,List.length_cons]at h1 h2 hw hl2 ⊢;have ih1:=fun w=>lp2 (l:=g::r) (i0:=1) Q8 K6 (by simp only[List.length_cons];omega) (L:=fun m i w=>a2e n (g::r) m i w) (R:=fun m i w=>R9 n' (g::r) m w i) (fun m m' i k y w hy hi hj c1 c2 c3 ih1 hw hz=>by
   obtain⟨s,bs,a,rfl,hs,hb⟩:=H y hy;have:=I5 hy;simp only[SZ]at hw this ⊢;have ih2:=fun w hw=>b6w (x:=⟨8,s,0,zT,[],bs,a⟩) (n:=n) (n':=n') (w:=w) hb (by show szN bs+3<=n;omega) (by show szN bs+3<=n';omega) hw;simp only[a2e.eq_2,R9.eq_2,a02];exact pd) (fun m m' w c1 hw=>by
   simp only[a2e.eq_2,R9.eq_2,c1];exact pt) (n-1) (n'-1) 1 w (by simp only[List.length_cons];omega) (by simp only[List.length_cons];omega) (by simp) (Nat.le_refl _)
  simp only[List.drop_succ_cons,List.drop_zero,Int.natCast_one]at ih1;obtain⟨q,rfl⟩:∃q,n=q+1:=⟨n-1,by omega⟩
  obtain⟨q',rfl⟩:∃q,n'=q+1:=⟨n'-1,by omega⟩
  obtain⟨s,bs,a,rfl,hs,hb⟩:=H g (by simp);simp only[SZ]at h1 h2 hw hl2 ⊢;have ih2:=fun w hw=>b6w (x:=⟨8,s,0,zT,[],bs,a⟩) (n:=q+1) (n':=q'+1) (w:=w) hb (by show szN bs+3<=_;omega) (by show szN bs+3<=_;omega) hw;have z:ltB 0 ((r.length+1:Nat):Int)=true:=R4 (by omega);have z1:eqB ((r.length+1:Nat):Int) 0=false:=a0i (by omega);have z2:eqB 0 0=true:=a1s rfl;simp only[Nat.add_sub_cancel]at ih1;simp only[a6v,a2e.eq_2,R9.eq_2,a02,List.length_cons,LIT,z,z1,z2,NF];exact pt
theorem typs_1 {u:Typ}(hu:GT u)(h1:10*u.sz+14<=n)(h2:10*u.sz+14<=n')(hw:wt w+100000*u.sz<=2000000000000):S2 (E2 2 (100000*u.sz) w) (K5 n [u] w) (I7 n' w u):=by
 have ih1:=fun w=>a8G (n:=n-1) (n':=n') hu w (by omega) (by omega);unfold K5;rw[a9q n (by omega)];obtain⟨m,hm⟩:∃m,n-1=m+2:=⟨n-1-2,by omega⟩
 have e1:idx' [u] 0=some u:=O3 (l:=[u]) (i:=0) (by simp);have e2:w64 (0+1)=1:=by decide
 have c0:ltB 0 ((1:Nat):Int)=true:=R4 (by omega);have c1:ltB 1 ((1:Nat):Int)=false:=O8 (by omega);rw[hm]at ih1 ⊢;unfold H6 at ih1;simp only[K3.eq_2,List.length_singleton,c0,c1,e1,e2,O8 (show ¬(0:Int)<0 by omega),NF,BSm];exact ih1 w hw
theorem CB {α β:Type}(b:Bool)(x y:Option α)(f:α->Option β):(cond b x y).bind f=cond b (x.bind f) (y.bind f):=by cases b<;>rfl
theorem t_req {A B:Type}{Q:A->B->Prop}{y:Nod}{f:List Str->Option A}{g:List Str->Option B}(H:DQ y)(h1:10*y.sz+14<=n)(h2:10*y.sz+14<=n')(hw:wt w+100000*y.sz<=2000000000000)(hQ:∀w',wt w'+2<=wt w+100000*y.sz->S2 Q (f w') (g w')):S2 Q ((a10 n y w).bind f) ((I7 n' w y.t).bind fun r7=>cond (eqB y.n 1) ((app 16 r7 ([[58],y.s]:List Str)).bind g) (cond (ltB 0 (List.length y.ts:Int)) ((app 16 r7 ([[61,61]]:List Str)).bind fun l12=>(idx' y.ts 0).bind fun x14=>(I7 n' l12 x14).bind g) (g r7))):=by
 unfold a10;rcases H with⟨t,s,a,rfl,hg,hs⟩ |⟨t,u,a,rfl,hg,hu⟩
 ·simp only[SZ]at h1 h2 hw hQ ⊢;have ih1:=fun w=>a8G (n:=n) (n':=n') hg w (by omega) (by omega);have ih5:=hQ;simp only[NF,a0j,Int.reduceEq,decide_true,decide_false];refine a6r (ih1 _ (by omega)) fun w' h'=>a5j (by omega) (by simp) (a5m (by omega) (by simp) (hQ _ (by simp only[WT];omega)))
 ·simp only[SZ,a2b,a5V]at h1 h2 hw hQ ⊢;have ih1:=fun w=>a8G (n:=n) (n':=n') hg w (by omega) (by omega);have ih2:=fun w hw=>typs_1 (n:=n) (n':=n') (w:=w) hu (by omega) (by omega) hw;have e1:idx' [u] 0=some u:=O3 (l:=[u]) (i:=0) (by simp);simp only[NF,List.length_singleton,e1,show ltB 0 ((1:Nat):Int)=true from R4 (by omega),a0j,Int.reduceEq,decide_true,decide_false];refine a6r (ih1 _ (by omega)) fun w' h'=>a5j (by omega) (by simp) (a5m (by omega) (by simp) (a6r (ih2 _ (by simp only[WT];omega)) fun w'' h''=>hQ _ ?_));simp only[WT]at h'';omega
theorem c5B {x:Nod}{gs:List Nod}(hl:x.l.length<=1000000)(hf:(x.l.filter fun y=>eqB y.op 12)=gs)(H:∀y∈gs,DQ y)(h1:x.l.length+10*szN gs+15<=n)(h2:x.l.length+10*szN gs+15<=n')(hw:wt w+100000*szN gs+6<=2000000000000):S2 (E2 0 (100000*szN gs+6) w) (a2g n x w) (a2E n' w x):=by
 have hl2:=G5 gs;unfold a2g a2E;rw[(ofs (o:=12) (n:=n) (x:=x) (by omega) (by omega)).1,(ofs (o:=12) (n:=n') (x:=x) (by omega) (by omega)).2,hf];rcases gs with _ |⟨g,r⟩
 ·obtain⟨q,rfl⟩:∃q,n'=q+1:=⟨n'-1,by omega⟩
  simp only[a0b.eq_2,List.length_nil,Int.natCast_zero,NF,a1s,O8 (show ¬(0:Int)<0 by omega)];exact pt
 ·simp only[K6,List.length_cons]at h1 h2 hw hl2 ⊢;have ih1:=fun w=>lp2 (l:=g::r) (i0:=1) Q8 K6 (by simp only[List.length_cons];omega) (L:=fun m i w=>a0V n (g::r) m i w) (R:=fun m i w=>a0b n' (g::r) m w i) (fun m m' i k y w hy hi hj c1 c2 c3 ih1 hw hz=>by
   have:=I5 hy;simp only[K6]at this;simp only[a0V.eq_2,a0b.eq_2];rcases hz with⟨z0,z1,z2⟩ |⟨z1,z2⟩
   ·omega
   simp only[c1,c2,c3,z1,z2,NF,CB];refine a5j (by omega) (by simp) (a5m (by omega) (by simp) (t_req (H y hy) (by omega) (by omega) (by simp only[WT];omega) fun w' h'=>?_));simp only[WT]at h';exact pt) (fun m m' w c1 hw=>by
   simp only[a0V.eq_2,a0b.eq_2,c1];exact pt) (n-1) (n'-1) 1 w (by simp only[List.length_cons];omega) (by simp only[List.length_cons];omega) (by simp) (Nat.le_refl _)
  simp only[List.drop_succ_cons,List.drop_zero,Int.natCast_one]at ih1;obtain⟨q,rfl⟩:∃q,n=q+1:=⟨n-1,by omega⟩
  obtain⟨q',rfl⟩:∃q,n'=q+1:=⟨n'-1,by omega⟩
  have z:ltB 0 ((r.length+1:Nat):Int)=true:=R4 (by omega);have z1:eqB ((r.length+1:Nat):Int) 0=false:=a0i (by omega);have z2:eqB 0 0=true:=a1s rfl;simp only[Nat.add_sub_cancel]at ih1;simp only[a4J,a0V.eq_2,a0b.eq_2,List.length_cons,LIT,z,z1,z2,NF,CB];refine a5j (by omega) (by simp) (a5m (by omega) (by simp) (t_req (H g (by simp)) (by omega) (by omega) (by simp only[WT];omega) fun w' h'=>?_));simp only[WT]at h';exact pt
end
end Go.Proofs.YtmippldlhnajkaaGreatDoor
namespace Go.Proofs.YtmippldlhnajkaaGreatDoor
open Go Go.Vm Pr
theorem opM {y:Nod}(h:G 4 y):RM y/\y.op=10:=by
 have h1:RM y:=h.rr;refine⟨h1,?_⟩;obtain⟨s,n,t,a,rfl,_⟩:=h1;rfl
theorem opB {y:Nod}(h:G 2 y):RB y/\y.op=20:=h.rr
theorem opG {y:Nod}(h:DG y):y.op=8:=by obtain⟨s,bs,a,rfl,_⟩:=h;rfl
theorem opQ {y:Nod}(h:DQ y):y.op=12:=by rcases h with⟨t,s,a,rfl,_⟩ |⟨t,u,a,rfl,_⟩<;>rfl
theorem opW {y:Nod}(h:DW y):y.op=11:=by obtain⟨t,a,rfl,_⟩:=h;rfl
section
variable {n n':Nat} {w:List Str}
theorem res_ok {t:Typ}(hg:GT t)(h1:10*t.sz+10<=n)(h2:10*t.sz+10<=n')(hw:wt w+100000*t.sz+10<=2000000000000):S2 (E2 0 (100000*t.sz+3) w) (a0q n t w) (a2q n' w t):=by
 unfold a0q a2q;rcases Classical.em (t.kind=4)with h|h
 ·rw[a1s h];exact pt
 ·rw[a0i h];have ih1:=fun w=>a8G (n:=n) (n':=n') hg w (by omega) (by omega);exact pt
theorem fun_ok {k:Int}{x:Nod}(H:DF k x)(h1:40*x.sz+60<=n)(h2:40*x.sz+60<=n')(hs:x.sz<=1000000)(hw:wt w+100000*x.sz<=2000000000000):S2 (E2 2 (100000*x.sz) w) (Y5 n x w) ((a1y n' w x).bind fun r=>cond (eqB k 0) (app 16 r ([[59]]:List Str)) (some r)):=by
 obtain @⟨s,t,gs,ps,ws,qs,bs,a,hl,hg,hgs,hps,hws,hqs,hbs,hk⟩:=H;have F:∀q,((gs ++(ps ++(ws ++(qs++bs)))).filter fun y=>eqB y.op q)=cond (eqB 8 q) gs [] ++(cond (eqB 10 q) ps [] ++(cond (eqB 11 q) ws [] ++(cond (eqB 12 q) qs []++cond (eqB 20 q) bs []))):=fun q=>by
  simp only[List.filter_append,flt fun y hy=>opG (hgs y hy),flt fun y hy=>(opM (hps y hy)).2,flt fun y hy=>opW (hws y hy),flt fun y hy=>opQ (hqs y hy),flt fun y hy=>(opB (hbs y hy)).2]
 have F8:=(F 8).trans (b:=_) (c:=gs) (by simp only[a0j,Int.reduceEq,decide_true,decide_false,cond_true,cond_false,List.append_nil,List.nil_append]);have F10:=(F 10).trans (b:=_) (c:=ps) (by simp only[a0j,Int.reduceEq,decide_true,decide_false,cond_true,cond_false,List.append_nil,List.nil_append]);have F11:=(F 11).trans (b:=_) (c:=ws) (by simp only[a0j,Int.reduceEq,decide_true,decide_false,cond_true,cond_false,List.append_nil,List.nil_append]);have F12:=(F 12).trans (b:=_) (c:=qs) (by simp only[a0j,Int.reduceEq,decide_true,decide_false,cond_true,cond_false,List.append_nil,List.nil_append]);have F20:=(F 20).trans (b:=_) (c:=bs) (by simp only[a0j,Int.reduceEq,decide_true,decide_false,cond_true,cond_false,List.append_nil,List.nil_append]);have hL:(gs ++(ps ++(ws ++(qs++bs)))).length<=szN (gs ++(ps ++(ws ++(qs++bs)))):=G5 _;simp only[SZ,List.length_append]at h1 h2 hs hw hL ⊢;have hL2:(gs ++(ps ++(ws ++(qs++bs)))).length=gs.length+(ps.length+(ws.length+(qs.length+bs.length))):=by simp only[List.length_append]
 have lw:=G5 ws;have lb:=G5 bs;have lp:=G5 ps;have OF:=fun(o:Int)=>ofs (n:=n) (x:=⟨7,s,k,t,[],gs ++(ps ++(ws ++(qs++bs))),a⟩) (o:=o) (by show(gs ++(ps ++(ws ++(qs++bs)))).length+3<=n;omega) (by show(gs ++(ps ++(ws ++(qs++bs)))).length<=1000000000;omega);have OF':=fun(o:Int)=>ofs (n:=n') (x:=⟨7,s,k,t,[],gs ++(ps ++(ws ++(qs++bs))),a⟩) (o:=o) (by show(gs ++(ps ++(ws ++(qs++bs)))).length+3<=n';omega) (by show(gs ++(ps ++(ws ++(qs++bs)))).length<=1000000000;omega);have o1:=(OF 10).1;have o2:=(OF 11).1;have o3:=(OF 20).1;have o4:=(OF' 10).2;have o5:=(OF' 11).2;have o6:=(OF' 20).2;simp only[F10,F11,F20]at o1 o2 o3 o4 o5 o6;have ihg:=fun w hw=>gen_ok (x:=⟨7,s,k,t,[],gs ++(ps ++(ws ++(qs++bs))),a⟩) (n:=n) (n':=n') (w:=w) (by show(gs ++(ps ++(ws ++(qs++bs)))).length<=1000000;omega) F8 hgs (by show(gs ++(ps ++(ws ++(qs++bs)))).length+szN gs+5<=n;omega) (by show(gs ++(ps ++(ws ++(qs++bs)))).length+szN gs+5<=n';omega) hw;have ihq:=fun w hw=>c5B (x:=⟨7,s,k,t,[],gs ++(ps ++(ws ++(qs++bs))),a⟩) (n:=n) (n':=n') (w:=w) (by show(gs ++(ps ++(ws ++(qs++bs)))).length<=1000000;omega) F12 hqs (by show(gs ++(ps ++(ws ++(qs++bs)))).length+10*szN qs+15<=n;omega) (by show(gs ++(ps ++(ws ++(qs++bs)))).length+10*szN qs+15<=n';omega) hw;have ihp:=fun w=>b85 (n:=n) (n':=n') (l:=ps) (by omega) (fun x hx=>⟨(opM (hps x hx)).1,by have:=I5 hx;omega,by have:=I5 hx;omega⟩) n n' 0 w (by omega) (by omega) (Nat.zero_le _);have ihw:=fun w=>lp2 (l:=ws) (i0:=0) Q8 K6 (by omega) (L:=fun m i w=>a01 n m ws (ws.length:Int) i w) (R:=fun m i w=>a0S n' ws m w i) (fun m m' i k y w hy hi hj c1 c2 c3 ih1 hw hz=>by
  have:=I5 hy;obtain⟨t,a,rfl,hg⟩:=hws y hy;simp only[SZ]at hw this ⊢;have ih2:=fun w=>a8G (n:=n) (n':=n') hg w (by omega) (by omega);simp only[a01.eq_2,a0S.eq_2];exact pd) (fun m m' w c1 hw=>by
  simp only[a01.eq_2,a0S.eq_2,c1];exact pt) n n' 0 w (by omega) (by omega) (Nat.zero_le _) (Nat.zero_le _)
 have ihb:=fun w=>lp2 (l:=bs) (i0:=0) Q8 K6 (by omega) (L:=fun m i w=>a0M n bs m i w) (R:=fun m i w=>a0g n' bs m w i) (fun m m' i k y w hy hi hj c1 c2 c3 ih1 hw hz=>by
  have:=I5 hy;have ih2:∀w,wt w+100000*y.sz<=2000000000000->S2 (E2 2 (100000*y.sz) w) (I4 n y w) (I6 n' w y):=fun w hw=>(opB (hbs y hy)).1 n n' w (by omega) (by omega) hw;simp only[a0M.eq_2,a0g.eq_2];exact pd) (fun m m' w c1 hw=>by
  simp only[a0M.eq_2,a0g.eq_2,c1];exact pt) n n' 0 w (by omega) (by omega) (Nat.zero_le _) (Nat.zero_le _)
 simp only[List.drop_zero,Int.natCast_zero]at ihp ihw ihb;have ihr:=fun w hw=>res_ok (n:=n) (n':=n') (w:=w) hg (by omega) (by omega) hw;simp only[Y5,a1y,a1I,a3q,a3V,o1,o2,o3,o4,o5,o6,NF];refine a5j (by omega) (by simp) (a5m (by omega) (by simp) (a6r (ihg _ (by simp only[WT];omega)) fun w1 g1=>?_));simp only[WT]at g1;refine a5j (by omega) (by simp) (a5m (by omega) (by simp) (a6r (ihp _ (by simp only[WT];omega)) fun w2 g2=>?_));simp only[WT]at g2;refine a5j (by omega) (by simp) (a5m (by omega) (by simp) (a6r (ihw _ (by simp only[WT];omega)) fun w3 g3=>?_));simp only[WT]at g3;refine a6r (ihr _ (by omega)) fun w4 g4=>a6r (ihq _ (by omega)) fun w5 g5=>?_;rcases hk with rfl |⟨rfl,rfl⟩
 ·simp only[NF,a0j,Int.reduceEq,decide_true,decide_false,BSm];exact b8A (ihb _ (by omega)) fun x h=>by omega
 ·obtain⟨q,rfl⟩:∃q,n'=q+1:=⟨n'-1,by omega⟩
  simp only[NF,a0j,Int.reduceEq,decide_true,decide_false,a0g.eq_2,List.length_nil,Int.natCast_zero,O8 (show ¬(0:Int)<0 by omega)];exact a5j (by omega) (by simp) (by
   rw[b8m (by omega) (by simp)];exact e2_ok rfl (by simp only[WT];omega))
theorem t_fun {A B:Type}{Q:A->B->Prop}{k:Int}{x:Nod}{f:List Str->Option A}{g:List Str->Option B}(H:DF k x)(h1:40*x.sz+60<=n)(h2:40*x.sz+60<=n')(hs:x.sz<=1000000)(hw:wt w+100000*x.sz<=2000000000000)(hQ:∀w',wt w'+2<=wt w+100000*x.sz->S2 Q (f w') (g w')):S2 Q ((Y5 n x w).bind f) ((a1y n' w x).bind fun r=>cond (eqB k 0) ((app 16 r ([[59]]:List Str)).bind g) (g r)):=by
 have h:=a6r (f:=f) (g:=g) (fun_ok (n:=n) (n':=n') (w:=w) H h1 h2 hs hw) hQ;rw[Option.bind_assoc]at h;cases hb:eqB k 0<;>simp only[hb,cond_true,cond_false,Option.bind_some]at h ⊢ <;> exact h
def DA (x:Nod):Prop:=∃s bs a,x =⟨16,s,0,zT,[],bs,a⟩/\s.length<=20000 /\ ∀y∈bs,DB y
def DL (x:Nod):Prop:=∃s t a,x =⟨17,s,0,t,[],[],a⟩/\s.length<=20000/\GT t
inductive DM:Nod->Prop
 | field {s:Str} {k:Int} {t:Typ} {a:Int}:s.length<=20000->GT t->DM ⟨13,s,k,t,[],[],a⟩
 | case {s:Str} {k:Int} {ts:List Typ} {a:Int}:s.length<=20000 ->(∀t∈ts,GT t)->DM ⟨14,s,k,zT,ts,[],a⟩
 | deinit {b:Nod} {a:Int}:G 2 b->DM ⟨15,[],0,zT,[],[b],a⟩
theorem opD {y:Nod}(h:DM y):y.op=13∨y.op=14∨y.op=15:=by cases h<;>simp
theorem mem_ok {y:Nod}(H:DM y)(h1:40*y.sz+60<=n)(h2:40*y.sz+60<=n')(hs:y.sz<=1000000)(hw:wt w+100000*y.sz+2<=2000000000000):S2 (E2 2 (100000*y.sz) w) (a2T n y w) (a0h n' w y):=by
 unfold a2T a0h;cases H with
 | @field s k t a hl hg =>
  simp only[SZ]at h1 h2 hs hw ⊢;have ih1:=fun w=>a8G (n:=n) (n':=n') hg w (by omega) (by omega);rcases Classical.em (k=1)with rfl|k1
  ·exact pt
  ·simp only[a0i k1];exact pt
 | @deinit b a hb =>
  simp only[SZ]at h1 h2 hs hw ⊢;have ih1:∀w,wt w+100000*b.sz<=2000000000000->S2 (E2 2 (100000*b.sz) w) (I4 n b w) (I6 n' w b):=fun w hw=>(opB hb).1 n n' w (by omega) (by omega) hw;obtain⟨q,hq⟩:∃q,n'=q+2:=⟨n'-2,by omega⟩
  have e:∀v,a0J n' ⟨15,[],0,zT,[],[b],a⟩ n' v 0 =(I6 n' v b).bind some:=fun v=>by
   rw[show a0J n' ⟨15,[],0,zT,[],[b],a⟩ n' v 0=a0J n' ⟨15,[],0,zT,[],[b],a⟩ (q+1+1) v 0 by rw[<-hq]];simp only[a0J.eq_2,LIT,NF]
  simp only[e,LIT,NF,a0j,Int.reduceEq,decide_true,decide_false];exact pt
 | @case s k ts a hl hg =>
  have hlt:=a4t ts;simp only[SZ]at h1 h2 hs hw ⊢;rcases ts with _ |⟨t,r⟩
  ·obtain⟨q,rfl⟩:∃q,n'=q+1:=⟨n'-1,by omega⟩
   simp only[X5.eq_2,List.length_nil,Int.natCast_zero,O8 (show ¬(0:Int)<0 by omega)];rcases Classical.em (k=1)with rfl|k1
   ·exact pt
   ·simp only[a0i k1];exact pt
  ·simp only[a2b,List.length_cons]at h1 h2 hs hw hlt ⊢;have tg:∀y∈t::r,y.sz<=t.sz+szT r:=fun y hy=>by
    have:=a4f hy;rw[a2b]at this;exact this
   have ih1:=fun w=>lp2 (l:=t::r) (c:=Typ.sz) (s:=szT) (i0:=1) a5V a2b (by simp only[List.length_cons];omega) (L:=fun m i w=>K3 (n-1) (q9.fs (n-1)) (t::r) m i w) (R:=fun m i w=>X5 n' ⟨14,s,k,zT,t::r,[],a⟩ m w i) (fun m m' i k y w hy hi hj c1 c2 c3 ih1 hw hz=>by
    have:=tg y hy;have ih2:=fun w=>c7n (hg y hy) (n-1) n' w (by omega) (by omega);simp only[K3.eq_2,X5.eq_2,I7];exact pd) (fun m m' w c1 hw=>by
    simp only[K3.eq_2,X5.eq_2,c1];exact pt) (n-1-1) (n'-1) 1 w (by simp only[List.length_cons];omega) (by simp only[List.length_cons];omega) (by simp) (Nat.le_refl _)
   simp only[List.drop_succ_cons,List.drop_zero,Int.natCast_one]at ih1;have ih2:=fun w=>c7n (hg t (by simp)) (n-1) n' w (by omega) (by omega);have e1:∀v,K5 n (t::r) v=K3 (n-1) (q9.fs (n-1)) (t::r) (n-1-1+1) 0 v:=fun v=>by
    unfold K5;rw[a9q n (by omega),show n-1-1+1=n-1 by omega]
   have e2:∀v,X5 n' ⟨14,s,k,zT,t::r,[],a⟩ n' v 0=X5 n' ⟨14,s,k,zT,t::r,[],a⟩ (n'-1+1) v 0:=fun v=>by rw[show n'-1+1=n' by omega]
   have z:ltB 0 ((r.length+1:Nat):Int)=true:=R4 (by omega);have z2:eqB 0 0=true:=a1s rfl;have z3:idx' (t::r) 0=some t:=O3 (l:=t::r) (i:=0) (by simp);have z4:w64 (0+1)=1:=by decide
   simp only[e1,e2,K3.eq_2,X5.eq_2,I7,List.length_cons,z,z2,z3,z4,O8 (show ¬(0:Int)<0 by omega),NF];rcases Classical.em (k=1)with rfl|k1
   ·exact pt
   ·simp only[a0i k1];exact pt
end
end Go.Proofs.YtmippldlhnajkaaGreatDoor
namespace Go.Proofs.YtmippldlhnajkaaGreatDoor
open Go Go.Vm Pr
inductive DD:Nod->Prop
 | recd {op:Int} {s:Str} {k:Int} {gs ms:List Nod} {a:Int}:(op=2/\(k=0∨k=1∨k=2∨k=3)∨op=3/\(k=0∨k=2)∨op=4/\k=0)->s.length<=20000 ->(∀y∈gs,DG y) ->(∀y∈ms,DM y)->DD ⟨op,s,k,zT,[],gs++ms,a⟩
 | prot {s:Str} {l:List Nod} {a:Int}:s.length<=20000 ->(∀y∈l,DA y∨DF 0 y)->DD ⟨5,s,0,zT,[],l,a⟩
 | ext {s:Str} {t:Typ} {qs l:List Nod} {a:Int}:s.length<=20000->GT t ->(∀y∈qs,DQ y) ->(∀y∈l,DL y∨DF 1 y)->DD ⟨6,s,0,t,[],qs++l,a⟩
 | func {x:Nod}:DF 1 x->DD x
theorem opF {k:Int}{y:Nod}(h:DF k y):y.op=7/\y.n=k:=by cases h;exact⟨rfl,rfl⟩
def ofF (ops:List Int)(y:Nod):List Nod:=(ops.filter fun o=>eqB y.op o).map fun _=>y
section
variable {n n':Nat} {w:List Str}
theorem of_in {x:Nod}{ops:List Int}(hO:ops.length<=10):∀(m j:Nat) (r:List Nod) (q:Int),ops.length<m+j->j<=ops.length->r.length<=5000000000+j->a8p n ops x m r q (j:Int)=some (r ++((ops.drop j).filter fun o=>eqB x.op o).map fun _=>x,q)
 | 0,_,_,_,_,_,_=>by omega
 | m+1,j,r,q,h1,h2,h3=>by
  rw[a8p.eq_2];rcases Nat.lt_or_ge j ops.length with h|h
  ·rw[R4 (by omega),O3 h,drop_eq h,List.filter_cons];cases hb:eqB x.op ops[j]
   ·simp only[NF,hb,L6 (show j<=1000000000000 by omega)];exact of_in hO m (j+1) r q (by omega) (by omega) (by omega)
   ·simp only[NF,hb,c1O (show r.length<=10000000000 by omega) (show [x].length<=10 by simp),L6 (show j<=1000000000000 by omega),if_true];rw[of_in hO m (j+1) (r++[x]) q (by omega) (by omega) (by simp;omega)];simp
  ·rw[O8 (by omega),List.drop_of_length_le h];simp
theorem of_g {x:Nod}{ops:List Int}(hO:ops.length<=10)(hn:12<=n)(hL:x.l.length<=100000000):∀(m i:Nat) (r:List Nod),x.l.length<m+i->i<=x.l.length->r.length<=10*i->a5A n x ops m r i=some (r ++(x.l.drop i).flatMap (ofF ops))
 | 0,_,_,_,_,_=>by omega
 | m+1,i,r,h1,h2,h3=>by
  rw[a5A.eq_2];rcases Nat.lt_or_ge i x.l.length with h|h
  ·have e:=of_in (n:=n) (x:=x.l[i]) hO n 0 r (i:Int) (by omega) (Nat.zero_le _) (by omega);have hl:(ofF ops x.l[i]).length<=10:=by
    have:=List.length_filter_le (fun o=>eqB x.l[i].op o) ops;simp only[ofF,List.length_map];omega
   rw[List.drop_zero,Int.natCast_zero]at e;rw[R4 (by omega),O3 h,drop_eq h,List.flatMap_cons];simp only[NF,e,L6 (show i<=1000000000000 by omega)];show a5A n x ops m (r++ofF ops x.l[i]) _=_;rw[of_g hO hn hL m (i+1) _ (by omega) (by omega) (by rw[List.length_append];omega),List.append_assoc]
  ·rw[O8 (by omega),List.drop_of_length_le h];simp
theorem flm1 {f:Nod->List Nod}:∀{l:List Nod},(∀y∈l,f y=[y])->l.flatMap f=l
 | [],_=>rfl
 | x::r,h=>by
  rw[List.flatMap_cons,h x (by simp),flm1 fun y hy=>h y (by simp[hy])];rfl
theorem of_2 {x:Nod}{ops:List Int}{p q:List Nod}(hx:x.l=p++q)(hO:ops.length<=10)(h1:x.l.length+12<=n)(hL:x.l.length<=100000000)(hp:∀y∈p,ofF ops y=[])(hq:∀y∈q,ofF ops y=[y]):a1Y n x ops=some q:=by
 unfold a1Y;have e:=of_g (n:=n) (x:=x) hO (by omega) hL n 0 [] (by omega) (Nat.zero_le _) (by simp);rw[List.drop_zero,Int.natCast_zero,hx,List.flatMap_append,List.flatMap_eq_nil_iff.2 hp,flm1 hq]at e;rw[e];rfl
theorem sh {l p:List Nod}{i:Nat}{y:Nod}(h:i<l.length)(hL:(p++l).length<=1000000000)(c2:idx' l (i:Int)=some y):ltB ((i:Int)+(p.length:Int)) (((p++l).length:Nat):Int)=true/\idx' (p++l) ((i:Int)+(p.length:Int))=some y/\w64 ((i:Int)+(p.length:Int)+1) =((i+1:Nat):Int)+(p.length:Int):=by
 rw[List.length_append]at hL;rw[O3 h]at c2;cases c2;have e:(i:Int)+(p.length:Int) =((i+p.length:Nat):Int):=by omega
 refine⟨R4 (by rw[List.length_append];omega),?_,?_⟩
 ·rw[e,O3 (by rw[List.length_append];omega),List.getElem_append_right (by omega)];simp
 ·rw[e,L6 (by omega)];omega
theorem skipD {x:Nod}{p l:List Nod}(hx:x.l=p++l)(hp:∀y∈p,∀w,a0h n' w y=some w)(hL:p.length<=1000000000):∀(d i m:Nat) (w:List Str),p.length=i+d->P8 n' x (m+d) w i=P8 n' x m w p.length
 | 0,i,m,w,h=>by rw[Nat.add_zero,h,Nat.add_zero]
 | d+1,i,m,w,h=>by
  have hi:i<p.length:=by omega
  have e:idx' (p++l) (i:Int)=some p[i]:=by rw[O3 (by simp;omega)];simp[hi]
  rw[show m+(d+1) =(m+d)+1 by omega,P8.eq_2,hx,R4 (by simp;omega)];simp only[e,NF,hp _ (List.getElem_mem hi),L6 (show i<=1000000000000 by omega)];rw[skipD hx hp hL d (i+1) m w (by omega)]
theorem mem_no {y:Nod}(h:y.op=8∨y.op=12)(w:List Str):a0h n' w y=some w:=by
 unfold a0h;rcases h with h|h<;>simp only[h,NF,a0j,Int.reduceEq,decide_true,decide_false]
theorem c2z {x:Nod}{p l:List Nod}{L:Nat->Int->List Str->Option (List Str)}(hx:x.l=p++l)(hp:∀y∈p,y.op=8∨y.op=12)(hL:x.l.length<=1000000)(h2:x.l.length+5<=n')(h1:l.length+1<=n)
  (hS:∀(m i:Nat) (y:Nod) (w:List Str) (B:Type) (Q:List Str->B->Prop) (g:List Str->Option B),y∈l->ltB (i:Int) (l.length:Int)=true->idx' l (i:Int)=some y->w64 ((i:Int)+1) =((i+1:Nat):Int)->wt w+100000*y.sz+2<=2000000000000 ->(∀w',wt w'+2<=wt w+100000*y.sz->S2 Q (L m ((i+1:Nat):Int) w') (g w'))->S2 Q (L (m+1) i w) ((a0h n' w y).bind g))
  (hE:∀(m:Nat) (w:List Str),ltB (l.length:Int) (l.length:Int)=false->L (m+1) (l.length:Int) w=some w) (hw:wt w+100000*szN l+2<=2000000000000):S2 (E2 0 (100000*szN l) w) (L n 0 w) (P8 n' x n' w 0):=by
 have hl:x.l.length=p.length+l.length:=by rw[hx,List.length_append]
 have hq:(p++l).length<=1000000000:=by rw[<-hx];omega
 have e:=skipD (n':=n') hx (fun y hy w=>mem_no (hp y hy) w) (by omega) p.length 0 (n'-p.length) w (by omega);rw[Int.natCast_zero,show n'-p.length+p.length=n' by omega]at e;rw[e];have ih1:=lp2 (l:=l) (i0:=0) Q8 K6 (by omega) (L:=L) (R:=fun m i w=>P8 n' x m w (i+(p.length:Int))) (fun m m' i k y w hy hi hj c1 c2 c3 ih1 hw hz=>by
  obtain⟨d1,d2,d3⟩:=sh (p:=p) hj hq c2;simp only[P8.eq_2,hx,d1,d2,d3,NF];refine hS m i y w _ _ _ hy c1 c2 c3 (by omega) fun w' h'=>?_;exact b8A (ih1 w' (by omega)) fun x h=>by omega) (fun m m' w c1 hw=>by
  rw[hE m w c1];simp only[P8.eq_2,hx,O8 (show ¬((l.length:Int)+(p.length:Int)<(((p++l).length:Nat):Int))by rw[List.length_append];omega)];exact pt) n (n'-p.length) 0 w (by omega) (by omega) (Nat.zero_le _) (Nat.zero_le _) (by rw[List.drop_zero];exact hw)
 rw[List.drop_zero,Int.natCast_zero]at ih1;simp only[Int.zero_add]at ih1;exact ih1
theorem FL:eqB (IntKind.wrap .i64 ((BitVec.ofInt 64 0 &&& BitVec.ofInt 64 1).toNat:Nat)) 0=true/\eqB (IntKind.wrap .i64 ((BitVec.ofInt 64 0 &&& BitVec.ofInt 64 2).toNat:Nat)) 0=true/\eqB (IntKind.wrap .i64 ((BitVec.ofInt 64 1 &&& BitVec.ofInt 64 1).toNat:Nat)) 0=false/\eqB (IntKind.wrap .i64 ((BitVec.ofInt 64 1 &&& BitVec.ofInt 64 2).toNat:Nat)) 0=true/\eqB (IntKind.wrap .i64 ((BitVec.ofInt 64 2 &&& BitVec.ofInt 64 1).toNat:Nat)) 0=true/\eqB (IntKind.wrap .i64 ((BitVec.ofInt 64 2 &&& BitVec.ofInt 64 2).toNat:Nat)) 0=false/\eqB (IntKind.wrap .i64 ((BitVec.ofInt 64 3 &&& BitVec.ofInt 64 1).toNat:Nat)) 0=false/\eqB (IntKind.wrap .i64 ((BitVec.ofInt 64 3 &&& BitVec.ofInt 64 2).toNat:Nat)) 0=false:=by simp only[a0j];decide
theorem MG3:(b9c eqB (2:Int) (b2P eqB 4 ([99,108,97,115,115]:Str) (b2P eqB 3 [101,110,117,109] (b2P eqB 2 [115,116,114,117,99,116] [])))).getD []=[115,116,114,117,99,116]/\(b9c eqB (3:Int) (b2P eqB 4 ([99,108,97,115,115]:Str) (b2P eqB 3 [101,110,117,109] (b2P eqB 2 [115,116,114,117,99,116] [])))).getD []=[101,110,117,109]/\(b9c eqB (4:Int) (b2P eqB 4 ([99,108,97,115,115]:Str) (b2P eqB 3 [101,110,117,109] (b2P eqB 2 [115,116,114,117,99,116] [])))).getD []=[99,108,97,115,115]:=by simp[b9c,b2P,a0j]
def P2 (c:Nat)(w a:List Str)(b:List Str×List Str):Prop:=b =(a,a)/\wt a<=wt w+c
theorem p2_ok {c:Nat}{w a b:List Str}(h1:a=b)(h2:wt a<=wt w+c):S2 (P2 c w) (some a) (some (b,b)):=by
 subst h1;exact S2mk ⟨rfl,h2⟩
theorem p2_w {c c':Nat}{w w':List Str}{p:Option (List Str)}{r:Option (List Str×List Str)}(H:S2 (P2 c w') p r)(h:wt w'+c<=wt w+c'):S2 (P2 c' w) p r:=S2imp H fun a b h1=>⟨h1.1,by have:=h1.2;omega⟩
theorem rec_tail {x:Nod}{gs ms:List Nod}(hx:x.l=gs++ms)(hgs:∀y∈gs,DG y)(hms:∀y∈ms,DM y)(h1:40*szN x.l+100<=n)(h2:40*szN x.l+100<=n')(hs:szN x.l<=1000000)(hw:wt w+100000*szN x.l+20<=2000000000000):S2 (P2 (100000*szN x.l+20) w) ((a0t n x w).bind fun words6=>(j5 ([[123]]:List Str) words6).bind fun words7=>(a1Y n x ([13,14,15]:List Int)).bind fun r8=>(X0 n n r8 (List.length r8:Int) 0 words7).bind fun b4d=>(j5 ([[125]]:List Str) b4d).bind fun words11=>some words11) ((a03 n' w x).bind fun r14=>(app 16 r14 ([[123]]:List Str)).bind fun l15=>(P8 n' x n' l15 0).bind fun l522=>(app 16 l522 ([[125]]:List Str)).bind fun l18=>some (l18,l18)):=by
 have hl:=G5 x.l;have hz:szN x.l=szN gs+szN ms:=by rw[hx,b2y]
 have lm:=G5 ms;have F8:(x.l.filter fun y=>eqB y.op 8)=gs:=by
  rw[hx,List.filter_append,flt fun y hy=>opG (hgs y hy),a1s rfl,List.filter_eq_nil_iff.2 fun y hy=>by rcases opD (hms y hy)with h|h|h<;>rw[h,a0j]<;>decide];exact List.append_nil _
 have o1:=of_2 (n:=n) (ops:=[13,14,15]) hx (by decide) (by omega) (by omega) (fun y hy=>by simp only[ofF,opG (hgs y hy),a0j];rfl) (fun y hy=>by rcases opD (hms y hy)with h|h|h<;>simp only[ofF,h,a0j]<;>rfl);refine a6r (gen_ok (by omega) F8 hgs (by omega) (by omega) (by omega)) fun w1 g1=>a5j (by omega) (by simp) (a5m (by omega) (by simp) ?_);simp only[o1,NF];refine a6r (c2z (n:=n) (n':=n') (L:=fun m i w=>X0 n m ms (ms.length:Int) i w) hx (fun y hy=>.inl (opG (hgs y hy))) (by omega) (by omega) (by omega) (fun m i y w B Q g hy c1 c2 c3 hw hQ=>by
  have:=I5 hy;simp only[X0.eq_2,c1,c2,c3,NF];exact a6r (mem_ok (hms y hy) (by omega) (by omega) (by omega) hw) hQ) (fun m w c1=>by simp only[X0.eq_2,c1,NF]) (by simp only[WT];omega)) fun w2 g2=>?_
 simp only[WT]at g2;exact a5j (by omega) (by simp) (a5m (by omega) (by simp) (p2_ok rfl (by simp only[WT];omega)))
theorem decl_ok {x:Nod}(H:DD x)(h1:40*x.sz+100<=n)(h2:40*x.sz+100<=n')(hs:x.sz<=1000000)(hw:wt w+100000*x.sz<=1000000000000):S2 (P2 (100000*x.sz) w) (a00 n x w) (a3t n' w x):=by
 unfold a00 a3t;cases H with
 | @recd op s k gs ms a ho hl hgs hms =>
  have T:=fun w hw=>rec_tail (n:=n) (n':=n') (w:=w) (x:=⟨op,s,k,zT,[],gs++ms,a⟩) (gs:=gs) (ms:=ms) rfl hgs hms (by simp only[SZ]at h1 ⊢;omega) (by simp only[SZ]at h2 ⊢;omega) (by simp only[SZ]at hs ⊢;omega) hw;simp only[SZ]at h1 h2 hs hw T ⊢;rcases ho with⟨rfl,rfl|rfl|rfl|rfl⟩ |⟨rfl,rfl|rfl⟩ |⟨rfl,rfl⟩<;>simp only[FL,MG3]<;>simp only[NF,a0j,Int.reduceEq,decide_true,decide_false];all_goals
   repeat refine a5j (by first|omega |(simp only[WT];omega)) (by simp) ?_
   repeat refine a5m (by first|omega |(simp only[WT];omega)) (by simp) ?_
   exact p2_w (T _ (by first|omega |(simp only[WT];omega))) (by first|omega |(simp only[WT];omega))
 | @prot s l a hl hM =>
  simp only[SZ]at h1 h2 hs hw ⊢;have hll:=G5 l;have o1:a4X n' ⟨5,s,0,zT,[],l,a⟩ [8]=some []:=by
   rw[(ofs (n:=n') (o:=8) (by show l.length+3<=n';omega) (by show l.length<=_;omega)).2];refine congrArg some (List.filter_eq_nil_iff.2 fun y hy=>?_);rcases hM y hy with⟨_,_,_,rfl,_⟩|h
   ·rw[a0j];simp
   ·rw[(opF h).1,a0j];simp
  obtain⟨q,hq⟩:∃q,n'=q+1:=⟨n'-1,by omega⟩
  have o2:∀v,R9 n' [] n' v 0=some v:=fun v=>by rw[hq,R9.eq_2];simp only[List.length_nil,Int.natCast_zero,O8 (show ¬(0:Int)<0 by omega),NF]
  simp only[FL,NF,a0j,Int.reduceEq,decide_true,decide_false,a03,o1,o2,List.length_nil,Int.natCast_zero,O8 (show ¬(0:Int)<0 by omega)];refine a5j (by omega) (by simp) (a5m (by omega) (by simp) (a5m (by simp only[WT];omega) (by simp) ?_));rw[show w++[[112,114,111,116,111,99,111,108],s]++[[123]]=w++[[112,114,111,116,111,99,111,108],s,[123]]by simp];refine a6r (c2z (n:=n) (n':=n') (x:=⟨5,s,0,zT,[],l,a⟩) (p:=[]) (l:=l) (L:=fun m i w=>X3 n ⟨5,s,0,zT,[],l,a⟩ m i w) rfl (fun y hy=>by cases hy) (by show l.length<=_;omega) (by show l.length+5<=n';omega) (by omega) (fun m i y w B Q g hy c1 c2 c3 hw hQ=>by
   have:=I5 hy;simp only[X3.eq_2,c1,c2,c3,NF,CB];rcases hM y hy with⟨s,bs,a,rfl,hs,hb⟩|h
   ·simp only[SZ]at hw hQ this;have ih1:=fun w hw=>b6w (x:=⟨16,s,0,zT,[],bs,a⟩) (n:=n) (n':=n') (w:=w) hb (by show szN bs+3<=n;omega) (by show szN bs+3<=n';omega) hw;simp only[a0h,NF,a0j,Int.reduceEq,decide_true,decide_false];refine a5j (by omega) (by simp) (a5m (by omega) (by simp) (a6r (ih1 _ (by simp only[WT];omega)) fun w' h'=>a5j (by simp only[WT]at h';omega) (by simp) (a5m (by simp only[WT]at h';omega) (by simp) (hQ _ ?_))));simp only[WT]at h' ⊢;omega
   ·obtain⟨e1,e2⟩:=opF h;have T:=t_fun (n:=n) (n':=n') (w:=w) (f:=fun w'=>X3 n ⟨5,s,0,zT,[],l,a⟩ m ((i+1:Nat):Int) w') (g:=g) h (by omega) (by omega) (by omega) (by omega) hQ;simp only[a0h,e1,e2,NF,CB,a0j,Int.reduceEq,decide_true,decide_false]at T ⊢;exact T) (fun m w c1=>by simp only[X3.eq_2,c1,NF]) (by simp only[WT];omega)) fun w2 g2=>?_
  simp only[WT]at g2;exact a5j (by omega) (by simp) (a5m (by omega) (by simp) (p2_ok rfl (by simp only[WT];omega)))
 | @ext s t qs l a hl hg hqs hM =>
  have hF:∀y∈l,y.op=17∨y.op=7:=fun y hy=>by
   rcases hM y hy with⟨_,_,_,rfl,_⟩|h
   ·exact .inl rfl
   ·exact .inr (opF h).1
  have hll:=G5 (qs++l);have hl2:=G5 l;simp only[SZ]at h1 h2 hs hw hll ⊢;have F12:((qs++l).filter fun y=>eqB y.op 12)=qs:=by
   rw[List.filter_append,flt fun y hy=>opQ (hqs y hy),a1s rfl,List.filter_eq_nil_iff.2 fun y hy=>by rcases hF y hy with h|h<;>rw[h,a0j]<;>decide];exact List.append_nil _
  have o1:a4X n' ⟨6,s,0,t,[],qs++l,a⟩ [8]=some []:=by
   rw[(ofs (n:=n') (o:=8) (by show(qs++l).length+3<=n';omega) (by show(qs++l).length<=_;omega)).2];refine congrArg some (List.filter_eq_nil_iff.2 fun y hy=>?_);rcases List.mem_append.1 hy with hy|hy
   ·rw[opQ (hqs y hy),a0j];simp
   ·rcases hF y hy with h|h<;>rw[h,a0j]<;>simp
  obtain⟨q,hq⟩:∃q,n'=q+1:=⟨n'-1,by omega⟩
  have o2:∀v,R9 n' [] n' v 0=some v:=fun v=>by rw[hq,R9.eq_2];simp only[List.length_nil,Int.natCast_zero,O8 (show ¬(0:Int)<0 by omega),NF]
  have o3:=of_2 (n:=n) (x:=⟨6,s,0,t,[],qs++l,a⟩) (ops:=[17,7]) rfl (by decide) (by show(qs++l).length+12<=n;omega) (by show(qs++l).length<=_;omega) (fun y hy=>by simp only[ofF,opQ (hqs y hy),a0j];rfl) (fun y hy=>by rcases hF y hy with h|h<;>simp only[ofF,h,a0j]<;>rfl);have ih1:=fun w=>a8G (n:=n) (n':=n') hg w (by omega) (by omega);simp only[FL,NF,a0j,Int.reduceEq,decide_true,decide_false,a03,o1,o2,o3,List.length_nil,Int.natCast_zero,O8 (show ¬(0:Int)<0 by omega)];refine a5j (by omega) (by simp) (a5m (by omega) (by simp) (a6r (ih1 _ (by simp only[WT];omega)) fun w1 g1=>a5j (by simp only[WT]at g1;omega) (by simp) (a5m (by simp only[WT]at g1;omega) (by simp) (a6r (c5B (x:=⟨6,s,0,t,[],qs++l,a⟩) (n:=n) (n':=n') (by show(qs++l).length<=_;omega) F12 hqs (by show(qs++l).length+10*szN qs+15<=n;omega) (by show(qs++l).length+10*szN qs+15<=n';omega) (by simp only[WT]at g1 ⊢;omega)) fun w2 g2=>a5j (by simp only[WT]at g1 g2;omega) (by simp) (a5m (by simp only[WT]at g1 g2;omega) (by simp) ?_)))));simp only[WT]at g1 g2;refine a6r (c2z (n:=n) (n':=n') (x:=⟨6,s,0,t,[],qs++l,a⟩) (p:=qs) (l:=l) (L:=fun m i w=>X4 n l m i w) rfl (fun y hy=>.inr (opQ (hqs y hy))) (by show(qs++l).length<=_;omega) (by show(qs++l).length+5<=n';omega) (by omega) (fun m i y w B Q g hy c1 c2 c3 hw hQ=>by
   have:=I5 hy;simp only[X4.eq_2,c1,c2,c3,NF,CB];rcases hM y hy with⟨s,t,a,rfl,hs,hg⟩|h
   ·simp only[SZ]at hw hQ this;have ih1:=fun w=>a8G (n:=n) (n':=n') hg w (by omega) (by omega);simp only[a0h,NF,a0j,Int.reduceEq,decide_true,decide_false];refine a5j (by omega) (by simp) (a5m (by omega) (by simp) (a6r (ih1 _ (by simp only[WT];omega)) fun w' h'=>a5j (by simp only[WT]at h';omega) (by simp) (a5m (by simp only[WT]at h';omega) (by simp) (hQ _ ?_))));simp only[WT]at h' ⊢;omega
   ·obtain⟨e1,e2⟩:=opF h;have T:=t_fun (n:=n) (n':=n') (w:=w) (f:=fun w'=>X4 n l m ((i+1:Nat):Int) w') (g:=g) h (by omega) (by omega) (by omega) (by omega) hQ;simp only[a0h,e1,e2,NF,CB,a0j,Int.reduceEq,decide_true,decide_false]at T ⊢;exact T) (fun m w c1=>by simp only[X4.eq_2,c1,NF]) (by simp only[WT];omega)) fun w3 g3=>?_
  simp only[WT]at g3;exact a5j (by omega) (by simp) (a5m (by omega) (by simp) (p2_ok rfl (by simp only[WT];omega)))
 | func H =>
  obtain⟨e1,e2⟩:=opF H;have T:=t_fun (n:=n) (n':=n') (w:=w) (f:=fun w'=>some w') (g:=fun r=>some (r,r)) (Q:=P2 (100000*x.sz) w) H (by omega) (by omega) hs (by omega) fun w' h'=>p2_ok rfl (by omega);rcases Classical.em (eqB ((IntKind.wrap .i64 ((BitVec.ofInt 64 x.n &&& BitVec.ofInt 64 1).toNat:Nat))) 0=true)with h|h;all_goals
   simp only[e1,e2,FL,NF,a0j,Int.reduceEq,decide_true,decide_false]at T ⊢;exact T
end
end Go.Proofs.YtmippldlhnajkaaGreatDoor
namespace Go.Proofs.YtmippldlhnajkaaGreatDoor
open Go Go.Vm Pr
mutual
def Typ.bd:Typ->Prop
 |⟨_,s,_,a⟩=>s.length<=20000/\bdT a
def bdT:List Typ->Prop
 | []=>True
 | x::r=>x.bd/\bdT r
end
mutual
def Nod.bd:Nod->Prop
 |⟨_,s,n,t,ts,l,_⟩=>s.length<=20000/\(-9223372036854775808<=n/\n<=9223372036854775807)/\t.bd/\bdT ts/\bdN l
def bdN:List Nod->Prop
 | []=>True
 | x::r=>x.bd/\bdN r
end
theorem c1T {x:Typ}:∀{l:List Typ},bdT l->x∈l->x.bd
 | y::r,hf,h=>by
  rcases List.mem_cons.1 h with rfl|h
  ·exact hf.1
  ·exact c1T hf.2 h
theorem Y4 {x:Nod}:∀{l:List Nod},bdN l->x∈l->x.bd
 | y::r,hf,h=>by
  rcases List.mem_cons.1 h with rfl|h
  ·exact hf.1
  ·exact Y4 hf.2 h
theorem Nod.a4w (x:Nod):x.bd↔x.s.length<=20000/\(-9223372036854775808<=x.n/\x.n<=9223372036854775807)/\x.t.bd/\bdT x.ts/\bdN x.l:=by cases x;exact .rfl
theorem Typ.a4w (x:Typ):x.bd↔x.name.length<=20000/\bdT x.args:=by cases x;exact .rfl
def T1 (d c:Nat)(w a:List Str):Prop:=wt a+d<=wt w+c
section
variable {A:Type} {Q:A->Prop}
theorem s12 {d c:Nat}{w:List Str}{p:Option (List Str)}(h:S2 (E2 d c w) p p):S1 (T1 d c w) p:=by
 obtain⟨a,b,h1,h2,h3,h4⟩:=h;exact⟨a,h1,h4⟩
theorem b9h {d c:Nat}{w:List Str}{p:Option (List Str)}{f:List Str->Option A}(H:S1 (T1 d c w) p)(h:∀w':List Str,wt w'+d<=wt w+c->S1 Q (f w')):S1 Q (p.bind f):=by
 obtain⟨a,rfl,hq⟩:=H;exact h a hq
theorem o_put {l m:List Str}{f:List Str->Option A}(h1:wt l<=4000000000000)(h2:m.length<=100)(h:S1 Q (f (l++m))):S1 Q ((app 16 l m).bind f):=by
 rw[b8m h1 h2];exact h
theorem o_ok {d c:Nat}{w a:List Str}(h:wt a+d<=wt w+c):S1 (T1 d c w) (some a):=⟨a,rfl,h⟩
theorem o_w {d c d' c':Nat}{w w':List Str}{p:Option (List Str)}(H:S1 (T1 d c w) p)(h:∀x:Nat,x+d<=wt w+c->x+d'<=wt w'+c'):S1 (T1 d' c' w') p:=by
 obtain⟨a,h1,h2⟩:=H;exact⟨a,h1,h _ h2⟩
theorem o_put0 {Q:List Str->Prop}{l m:List Str}(h1:wt l<=4000000000000)(h2:m.length<=100)(h:S1 Q (some (l++m))):S1 Q (app 16 l m):=by
 rw[b8m h1 h2];exact h
theorem o_esc {s:Str}{f:Str->Option A}(hs:s.length<=20000)(h:∀u:Str,u.length<=40000->S1 Q (f u)):S1 Q ((escR s).bind f):=by
 rw[(escs hs).1.2];exact h _ (escs hs).2
theorem o_cat {a b:Str}{f:Str->Option A}(hs:a.length+b.length<=100000)(h:∀u:Str,u.length=a.length+b.length->S1 Q (f u)):S1 Q ((cat a b).bind f):=by
 rw[b7l hs];exact h _ (List.length_append ..)
end
theorem lpo {α:Type}{l:List α}{c:α->Nat}{s:List α->Nat}(hs0:s []=0)(hs:∀x r,s (x::r)=c x+s r)(hL:l.length<=1000000000){L:Nat->Int->List Str->Option (List Str)}
  (hS:∀(m i k:Nat) (x:α) (w:List Str),x∈l->i<l.length->ltB (i:Int) (l.length:Int)=true->idx' l (i:Int)=some x->w64 ((i:Int)+1) =((i+1:Nat):Int) ->(∀w',wt w'+100000*k+30000<=2000000000000->S1 (T1 0 (100000*k) w') (L m ((i+1:Nat):Int) w'))->wt w+100000*(c x+k)+30000<=2000000000000->S1 (T1 0 (100000*(c x+k)) w) (L (m+1) i w))
  (hE:∀(m:Nat) (w:List Str),ltB (l.length:Int) (l.length:Int)=false->w64 ((l.length:Int)+1) =((l.length+1:Nat):Int)->ltB ((l.length+1:Nat):Int) (l.length:Int)=false->S1 (T1 0 0 w) (L (m+1) (l.length:Int) w)) :
  ∀{n:Nat},l.length<n -> ∀(w:List Str),wt w+100000*s l+30000<=2000000000000->S1 (T1 0 (100000*s l) w) (L n 0 w):=by
 have key:∀(m i:Nat) (w:List Str),l.length<m+i->i<=l.length->wt w+100000*s (l.drop i)+30000<=2000000000000->S1 (T1 0 (100000*s (l.drop i)) w) (L m i w):=fun m=>by
  induction m with
  | zero=>intro i w h1 h3;omega
  | succ m ih =>
   intro i w h1 h3 h4;rcases Nat.lt_or_ge i l.length with h|h
   ·have hd:=drop_eq h;rw[hd,hs]at h4 ⊢;exact hS m i _ l[i] w (List.getElem_mem h) h (R4 (by omega)) (O3 h) (L6 (by omega)) (fun w' hw=>ih (i+1) w' (by omega) (by omega) hw) h4
   ·have:i=l.length:=by omega
    subst this;rw[List.drop_length,hs0];exact hE m w (O8 (by omega)) (L6 (by omega)) (O8 (by omega))
 exact fun{n} hn w hw=>key n 0 w hn (Nat.zero_le _) hw
theorem tot {P:Prop}(x:P:=by
 repeat' first
 | with_reducible assumption
 |(with_reducible intro _ h;replace h:=h;simp only[WT]at h)
 | with_reducible intro _
 |(simp only[NF,CD,BSm,c1,c2,c3,fin])
 |(simp only[NF,CD,BSm,c1,c2,c3])
 |(simp only[NF,CD,BSm,fin])
 |(simp only[NF,CD,BSm])
 | with_reducible refine t_if ?_ ?_
 | with_reducible refine o_put ?_ ?_ ?_
 | with_reducible refine o_put0 ?_ ?_ ?_
 | with_reducible refine o_esc ?_ ?_
 | with_reducible refine o_cat ?_ ?_
 | with_reducible refine b9h (ih1 _ ?_) ?_
 | with_reducible refine b9h (ih2 _ ?_) ?_
 | with_reducible refine b9h (ih3 _ ?_) ?_
 | with_reducible refine b9h (ih4 _ ?_) ?_
 | with_reducible refine b9h (ih5 _ ?_) ?_
 | with_reducible refine b9h (ih6 _ ?_) ?_
 | with_reducible refine b9h (ih7 _ ?_) ?_
 | with_reducible refine b9h (ih8 _ ?_) ?_
 | with_reducible refine o_w (ih1 _ ?_) ?_
 | with_reducible refine o_w (ih2 _ ?_) ?_
 | with_reducible refine o_w (ih3 _ ?_) ?_
 | with_reducible refine o_w (ih4 _ ?_) ?_
 | with_reducible refine o_w (ih5 _ ?_) ?_
 | with_reducible refine o_w (ih6 _ ?_) ?_
 | with_reducible refine o_w (ih7 _ ?_) ?_
 | with_reducible refine o_w (ih8 _ ?_) ?_
 | with_reducible refine o_ok ?_
 | with_reducible refine hL ?_
 | exact rfl
 | omega
 |(simp only[WT];omega)
 |(simp only[WT,List.length_singleton]at *;omega)):P:=x
theorem c8M:∀(k:Nat) (t:Typ) (n:Nat) (w:List Str),t.sz<=k->t.sz<=1000000->t.bd->10*t.sz+10<=n->wt w+100000*t.sz<=2000000000000->S1 (T1 30000 (100000*t.sz) w) ((G9.fs n).I7 w t)
 | 0,t,n,w,h1,_,_,_,_=>by have:=t.S9;omega
 | k+1,⟨kd,s,nn,a⟩,n,w,h1,hs,hb,hn,hw=>by
  rw[tsz]at h1 hs hn hw ⊢;have hl:=a4t a;obtain⟨hb1,hb2⟩:=hb;rw[c38 n (by omega)];have H:∀x∈a,∀w,wt w+100000*x.sz<=2000000000000->S1 (T1 30000 (100000*x.sz) w) ((G9.fs (n-1)).I7 w x):=fun x hx w h3=>by
   have:=a4f hx;exact c8M k x (n-1) w (by omega) (by omega) (c1T hb2 hx) (by omega) h3
  have ih1:=lpo (l:=a) (c:=Typ.sz) (s:=szT) a5V a2b (by omega) (L:=fun m i w=>a1R (n-1) (G9.fs (n-1)) ⟨kd,s,nn,a⟩ m w i) (fun m i k x w hx hi c1 c2 c3 ih1 hw=>by
   have ih2:=H x hx;rw[a1R.eq_2];exact tot) (fun m w c1 c2 c3=>by
   rw[a1R.eq_2];exact tot) (show a.length<n-1 by omega)
  have ih3:=lpo (l:=a) (c:=Typ.sz) (s:=szT) a5V a2b (by omega) (L:=fun m i w=>a1S (n-1) (G9.fs (n-1)) ⟨kd,s,nn,a⟩ m w i) (fun m i k x w hx hi c1 c2 c3 ih1 hw=>by
   have ih2:=H x hx;rw[a1S.eq_2];exact tot) (fun m w c1 c2 c3=>by
   rw[a1S.eq_2];exact tot) (show a.length<n-1 by omega)
  unfold a5c;rcases List.eq_nil_or_concat a with rfl |⟨b,z,rfl⟩
  ·have fin:ltB 0 ((([]:List Typ).length:Nat):Int)=false:=O8 (by simp);have ih2:∀w,S1 (T1 0 0 w) (X6 (n-1) (G9.fs (n-1)) ⟨kd,s,nn,[]⟩ (n-1) w 0):=fun w=>by
    obtain⟨q,hq⟩:∃q,n-1=q+1:=⟨n-2,by omega⟩
    rw[show X6 (n-1) (G9.fs (n-1)) ⟨kd,s,nn,[]⟩ (n-1) w 0=X6 (n-1) (G9.fs (n-1)) ⟨kd,s,nn,[]⟩ (q+1) w 0 by rw[<-hq],X6.eq_2,O8 (by rw[a4j]<;>simp)];exact o_ok (by omega)
   have ih2:=fun w (_:True)=>ih2 w;simp only[a5V]at *;exact tot
  ·simp only[List.concat_eq_append]at *;have e:((b++[z]).length:Int) =(b.length:Int)+1:=by simp
   have hz:=H z (by simp);simp only[a9W,a2b,a5V,List.length_append,List.length_singleton]at h1 hs hn hw hl ih1 ih3 ⊢;have ih2:=lpo (l:=b) (c:=Typ.sz) (s:=szT) a5V a2b (by omega) (L:=fun m i w=>X6 (n-1) (G9.fs (n-1)) ⟨kd,s,nn,b++[z]⟩ m w i) (fun m i k x w hx hi c1 c2 c3 ih1 hw=>by
    have ih2:=H x (by simp[hx]);have fin:ltB ((i+1:Nat):Int) ((b++[z]).length:Int)=true/\idx' (b++[z]) (i:Int)=some x:=by
     rw[O3 hi]at c2;exact⟨R4 (by simp;omega),by rw[O3 (by simp;omega),List.getElem_append_left hi];exact c2⟩
    rw[X6.eq_2];exact tot) (fun m w c1 c2 c3=>by
    have fin:ltB ((b.length+1:Nat):Int) ((b++[z]).length:Int)=false:=O8 (by simp);rw[X6.eq_2];exact tot) (show b.length<n-1 by omega)
   have ih4:=hz;have fin:ltB 0 ((b.length+1:Nat):Int)=true/\idx' (b++[z]) (w64 (((b.length+1:Nat):Int)-1))=some z:=⟨R4 (by omega),by
    rw[a4j (by omega) (by omega),show((b.length+1:Nat):Int)-1 =(b.length:Int)by omega,O3 (by simp)];simp⟩
   exact tot
end Go.Proofs.YtmippldlhnajkaaGreatDoor
namespace Go.Proofs.YtmippldlhnajkaaGreatDoor
open Go Go.Vm Pr
abbrev KE (y:Nod):Prop:=∀n w,40*y.sz+40<=n->wt w+100000*y.sz<=2000000000000->S1 (T1 30000 (100000*y.sz) w) ((j6.fs n).F9 w y)
abbrev KS (y:Nod):Prop:=∀n w,40*y.sz+40<=n->wt w+100000*y.sz<=2000000000000->S1 (T1 30000 (100000*y.sz) w) ((j6.fs n).I6 w y)
abbrev KM (y:Nod):Prop:=∀n w,40*y.sz+40<=n->wt w+100000*y.sz<=2000000000000->S1 (T1 30000 (100000*y.sz) w) ((G6.fs n).T9 w y)
def hA:List Nod->Nat | []=>0|x::r=>(1+x.t.sz)+hA r
def hB:List Nod->Nat | []=>0|x::r=>szN x.l+hB r
theorem c0V (p:Nod->Bool):∀l:List Nod,hA (l.filter p)<=hA l
 | []=>Nat.le_refl _
 | x::r=>by
  have:=c0V p r;rw[List.filter_cons];cases p x<;>simp only[hA,if_true,if_false,Bool.false_eq_true]<;>omega
theorem hAB:∀l:List Nod,hA l+hB l<=szN l
 | []=>Nat.le_refl _
 | x::r=>by
  have:=hAB r;have:=x.S9;simp only[hA,hB,szN];omega
section
variable {n:Nat} {w:List Str}
theorem typd {t:Typ}(hb:t.bd)(hs:t.sz<=1000000)(hn:10*t.sz+10<=n)(w:List Str)(hw:wt w+100000*t.sz<=2000000000000):S1 (T1 30000 (100000*t.sz) w) (I7 n w t):=c8M t.sz t n w (Nat.le_refl _) hs hb hn hw
theorem c8C {t:Typ}(hb:t.bd)(hs:t.sz<=1000000)(hn:10*t.sz+10<=n)(w:List Str)(hw:wt w+100000*t.sz+10<=2000000000000):S1 (T1 0 (100000*t.sz+3) w) (a2q n w t):=by
 have ih1:=typd (n:=n) hb hs hn;unfold a2q;exact tot
theorem b86 {x:Nod}(hb:x.bd)(hs:x.sz<=1000000)(hn:40*x.sz+20<=n)(w:List Str)(hw:wt w+100000*hA x.l+30010<=2000000000000):S1 (T1 0 (100000*hA x.l+4) w) (a3V n w x):=by
 have hl:=G5 x.l;have hz:=x.S9;have hAl:=c0V (fun y=>eqB y.op 10) x.l;have hAs:=hAB x.l;have hfl:=List.length_filter_le (fun y=>eqB y.op 10) x.l;unfold a3V;rw[(ofs (o:=10) (n:=n) (x:=x) (by omega) (by omega)).2];have ih1:=lpo (l:=x.l.filter fun y=>eqB y.op 10) (c:=fun y=>1+y.t.sz) (s:=hA) rfl (fun _ _=>rfl) (by omega) (L:=fun m i w=>a2L n (x.l.filter fun y=>eqB y.op 10) m w i) (fun m i k y w hy hi c1 c2 c3 ih1 hw=>by
  have hm:=(List.mem_filter.1 hy).1;have hsy:=I5 hm;have hzy:=y.S9;obtain⟨b1,b2,b3,b4,b5⟩:=y.a4w.1 (Y4 (x.a4w.1 hb).2.2.2.2 hm);have ih2:=typd (n:=n) b3 (by omega) (by omega);rw[a2L.eq_2];exact tot) (fun m w c1 c2 c3=>by
  rw[a2L.eq_2];exact tot) (n:=n) (by omega)
 exact tot
theorem b7h {x:Nod}(hb:x.bd)(hs:x.sz<=1000000)(hn:x.sz+10<=n)(w:List Str)(hw:wt w+100000*szN x.l+30000<=2000000000000):S1 (T1 0 (100000*szN x.l) w) (a3m n w x):=by
 have hl:=G5 x.l;have hz:=x.S9;have ih1:=lpo (l:=x.l) (c:=Nod.sz) (s:=szN) Q8 K6 (by omega) (L:=fun m i w=>a1i n x m w i) (fun m i k y w hy hi c1 c2 c3 ih1 hw=>by
  have hsy:=I5 hy;have hzy:=y.S9;obtain⟨b1,b2,b3,b4,b5⟩:=y.a4w.1 (Y4 (x.a4w.1 hb).2.2.2.2 hy);rw[a1i.eq_2];exact tot) (fun m w c1 c2 c3=>by
  rw[a1i.eq_2];exact tot) (n:=n) (by omega)
 unfold a3m;exact tot
end
theorem fd1 (n:Nat)(h:1<=n)(x:Nod)(w:List Str):(j6.fs n).F9 w x=a0n (n-1) (j6.fs (n-1)) w x:=by
 obtain⟨k,rfl⟩:∃k,n=k+1:=⟨n-1,by omega⟩
 rfl
theorem fd2 (n:Nat)(h:1<=n)(x:Nod)(w:List Str):(j6.fs n).a0l w x=a1j (n-1) (j6.fs (n-1)) w x:=by
 obtain⟨k,rfl⟩:∃k,n=k+1:=⟨n-1,by omega⟩
 rfl
theorem fd3 (n:Nat)(h:1<=n)(x:Nod)(w:List Str):(j6.fs n).I6 w x=Q7 (n-1) (j6.fs (n-1)) w x:=by
 obtain⟨k,rfl⟩:∃k,n=k+1:=⟨n-1,by omega⟩
 rfl
theorem fd4 (n:Nat)(h:1<=n)(x:Nod)(w:List Str):(j6.fs n).a0k w x=a0I (n-1) (j6.fs (n-1)) w x:=by
 obtain⟨k,rfl⟩:∃k,n=k+1:=⟨n-1,by omega⟩
 rfl
theorem fd5 (n:Nat)(h:1<=n)(x:Nod)(w:List Str):(G6.fs n).T9 w x=a1Q (n-1) (G6.fs (n-1)) w x:=by
 obtain⟨k,rfl⟩:∃k,n=k+1:=⟨n-1,by omega⟩
 rfl
theorem c0T {n:Nat}{l:List Nod}(H:∀y∈l,KE y)(hs:szN l<=1000000)(hn:40*szN l+50<=n)(w:List Str)(hw:wt w+100000*szN l+30004<=2000000000000):S1 (T1 0 (100000*szN l+4) w) ((j6.fs n).a0z w l):=by
 have hl:=G5 l;rw[fr2 n (by omega)];have ih1:=lpo (l:=l) (c:=Nod.sz) (s:=szN) Q8 K6 (by omega) (L:=fun m i w=>a3u (n-1) (j6.fs (n-1)) l m w i) (fun m i k y w hy hi c1 c2 c3 ih1 hw=>by
  have hsy:=I5 hy;have hzy:=y.S9;have ih2:=fun w=>H y hy (n-1) w (by omega);rw[a3u.eq_2];exact tot) (fun m w c1 c2 c3=>by
  rw[a3u.eq_2];exact tot) (n:=n-1) (by omega)
 unfold a5b;exact tot
theorem c5D {n:Nat}{y:Nod}(H:KE y)(hn:40*y.sz+50<=n)(b:Bool)(w:List Str)(hw:wt w+100000*y.sz+2<=2000000000000):S1 (T1 0 (100000*y.sz+2) w) ((j6.fs n).W9 w y b):=by
 have ih1:=fun w=>H (n-1) w (by omega);rw[fr6 n (by omega)];unfold a2N;exact tot
theorem c9h (y:Nod):∃b,a3n y=some b:=by
 unfold a3n;cases eqB y.op 61<;>cases eqB y.op 63<;>cases eqB y.op 66<;>exact⟨_,rfl⟩
theorem c73 {n:Nat}{Φ:j6}{Y X:Nod}{i:Nat}(hY:idx' Y.l (i:Int)=some X)(hL:X.l.length<=1000000)(H:∀y∈X.l,∀w,wt w+100000*y.sz<=2000000000000->S1 (T1 30000 (100000*y.sz) w) (Φ.I6 w y)):∀(m j:Nat) (w:List Str),X.l.length<m+j->j<=X.l.length->wt w+100000*szN (X.l.drop j)<=2000000000000->S1 (fun u=>u.2 =(i:Int)/\T1 0 (100000*szN (X.l.drop j)) w u.1) (a2h n Φ Y m w (i:Int) (j:Int))
 | 0,_,_,_,_,_=>by omega
 | m+1,j,w,h1,h3,h4=>by
  rw[a2h.eq_2];simp only[hY,NF];rcases Nat.lt_or_ge j X.l.length with h|h
  ·have hd:=drop_eq h;rw[hd,K6]at h4 ⊢;simp only[R4 (show(j:Int)<(X.l.length:Int)by omega),O3 h,L6 (show j<=1000000000000 by omega),NF];refine b9h (H _ (List.getElem_mem h) w (by omega)) fun w' h'=>?_;obtain⟨u,e,e1,e2⟩:=c73 hY hL H m (j+1) w' (by omega) (by omega) (by omega);exact⟨u,e,e1,by simp only[T1]at e2 ⊢;omega⟩
  ·simp only[O8 (show ¬(j:Int)<(X.l.length:Int)by omega),NF];exact⟨_,rfl,rfl,by simp only[T1];omega⟩
end Go.Proofs.YtmippldlhnajkaaGreatDoor
