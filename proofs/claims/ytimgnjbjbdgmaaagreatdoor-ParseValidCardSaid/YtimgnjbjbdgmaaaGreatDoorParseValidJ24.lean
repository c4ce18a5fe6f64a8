/- Texts of ParseValid, joined. -/
import Derived.Test.YtimgnjbjbdgmaaaGreatDoorParseValidJ23
set_option maxRecDepth 100000
set_option maxHeartbeats 20000000
set_option linter.all false
namespace Go.Proofs.YtimgnjbjbdgmaaaGreatDoor
open Go Go.Vm Pr
variable {α:Type} {a nn o:Int} {ts:List Typ} {n n':Nat} {t:Typ}
theorem UF:(∀n,(j6.fs (n+1)).a3K=a2w n (j6.fs n))/\(∀n,(j6.fs (n+1)).a1W=a2a n (j6.fs n))/\(∀n,(j6.fs (n+1)).a1w=a0U n (j6.fs n))/\(∀n,(j6.fs (n+1)).a0v=a1l n (j6.fs n))/\(∀n,(j6.fs (n+1)).a0h=a3j n (j6.fs n))/\(∀n,(j6.fs (n+1)).a1p=a2A n (j6.fs n))/\(∀n,(p8.fs (n+1)).a4c=a6M n (p8.fs n))/\(∀n,(p8.fs (n+1)).a5q=a5e n (p8.fs n))/\(∀n,(p8.fs (n+1)).a3U=a5H n (p8.fs n))/\(∀n,(p8.fs (n+1)).a5p=a5d n (p8.fs n)):=⟨fun _=>rfl,fun _=>rfl,fun _=>rfl,fun _=>rfl,fun _=>rfl,fun _=>rfl,fun _=>rfl,fun _=>rfl,fun _=>rfl,fun _=>rfl⟩
theorem c4A {x:α}{l:List α}:a9p (x::l) 1 ((x::l).length:Int)=some l:=by
 have h:inI 1 ((x::l).length:Int) (x::l).length=true:=by simp[inI];omega
 unfold a9p;rw[h];simp
theorem rest1 {n:Int}{s:Str}{x:Nod}{l:List Nod}:a6e ⟨o,s,n,t,ts,x::l,a⟩ 1=some l:=by
 unfold a6e;rw[c4A];cases l with
 | nil=>rw[a2e zSi];rfl
 | cons y r=>rw[a04 (by simp;omega)];rfl
theorem px {P:Prop}(x:P:=by
 simp only[a0b,a4l,Y1,a3f,a0g,NF,a5M,Int.reduceEq,decide_true,decide_false];try simp only[UF,a2w,a2a,a0U,a1l,a3j,a2A,a6M,a5e,a5H,a5d,a07,a2s,a08,a4V,a5Z,a7U,O8,a06,a1x,a6q,c4A,rest1,LN,NF,a5M,Int.reduceEq,Int.reduceLT,decide_true,decide_false]
 exact pt):P:=x
theorem g4 {x:Nod}(h:G V0 4 x):∃s n t a,x =⟨10,s,n,t,[],[],a⟩/\GT V0 false t:=by
 cases h with
 | param h1 h2 h3=>exact⟨_,_,_,_,rfl,h3⟩
theorem g5 {x:Nod}(h:G V0 5 x):∃p b a,x =⟨27,[],0,zT,[],[p,b],a⟩/\G V0 3 p/\G V0 2 b:=by
 cases h with
 | arm h1 h2=>exact⟨_,_,_,rfl,h1,h2⟩
theorem idx_c {a:List α}{x y:α}{i:Nat}(e:idx' a (i:Int)=some x)(h:i<a.length):idx' (y::a) ((i:Int)+1)=some x:=by
 rw[a1h h]at e;exact(a1h (l:=y::a) (i:=i+1) (by simp;omega)).trans e
theorem b3B {t:Typ}{b:Bool}{n n':Nat}(h:GT V0 b t)(h1:t.sz<=1000000)(h2:10*t.sz+10<=n)(h3:10*t.sz+10<=n'):SW (8*t.sz-2) (bkt t) (fun w=>(w9.fs n).J7 t w) (fun w=>(J4.fs n').Q0 w t):=typ_w t.sz t b n n' (Nat.le_refl _) h1 h h2 h3
theorem res4 (h:t=uT∨GT V0 false t):(decide (t.kind=4)=true/\bkt t<=1)∨(decide (t.kind=4)=false/\GT V0 false t):=by
 by_cases h4:t.kind=4
 ·refine .inl ⟨decide_eq_true h4,?_⟩;rcases h with rfl|h
  ·exact Nat.le_refl _
  obtain⟨_,_,_,_,g5,g6⟩:=c08 h;obtain⟨kd,s,n,a⟩:=t;obtain rfl:kd=4:=h4;obtain rfl:=g5 zSi;obtain rfl:=g6 zSi;exact Nat.le_refl _
 exact .inr ⟨decide_eq_false h4,h.resolve_left fun e=>h4 (by rw[e])⟩
theorem par_w {l:List Nod}(hl:∀y∈l,G V0 4 y)(hs:szN l<=20000)(hb:bkN l<=30000)(hn:10*szN l+20<=n)(hn':10*szN l+20<=n'):SW (8*szN l) (bkN l) (fun w=>U4 n l n 0 w) (fun w=>a00 n' l n' w 0):=by
 have hL:=I8 l;have lp1:=lpw (l:=l) 0 (c:=fun r=>8*szN r) (b:=bkN) (L:=fun m i w=>U4 n l m i w) (R:=fun m i w=>a00 n' l m w i) zOm (fun m m' i x r hx hi hi0 h1 h2 h3 hz ih=>pz hz (fun z1 z2=>by
  have hs1:=a0L hx;have hb1:=a6t hx;obtain⟨s,nn,t,a,rfl,h5⟩:=g4 (hl x hx);have hx1:=t.H8;have pr2:=fun{n n'}=>b3B (n:=n) (n':=n') h5;simp only[WN]at hs1 hb1;simp only[a0V,U4.eq_2,a00.eq_2,h1,h2,h3,z1,z2];exact pt) fun z1 z2=>by
  have hs1:=a0L hx;have hb1:=a6t hx;obtain⟨s,nn,t,a,rfl,h5⟩:=g4 (hl x hx);have hx1:=t.H8;have pr2:=fun{n n'}=>b3B (n:=n) (n':=n') h5;simp only[WN]at hs1 hb1;simp only[a0V,U4.eq_2,a00.eq_2,h1,h2,h3,z1,z2];exact pt) (fun m m' h1=>by
  simp only[a0V,U4.eq_2,a00.eq_2,h1];exact pt) n n' 0 zOm zOm (Nat.zero_le _) (Nat.zero_le _)
 simp only[zD]at lp1;exact lp1
theorem cl9 {n:Nat}{Φ:j6}{x:Nod}{c:Int}:∀(m:Nat) (i:Int) (w:List Str),a4q n Φ x m c i w =(O4 n Φ x m i w).bind fun r=>some (c,r)
 | 0,_,_=>rfl
 | m+1,i,w=>by
  simp only[a4q,O4,cl9 m,NF];cases ltB i (x.l.length:Int)
  ·rfl
  simp only[NF]
theorem cl35 {n:Nat}{Φ:p8}{x y:Nod}{i:Int}(h:idx' x.l i=some y):∀(m:Nat) (k:Int) (w:List Str),a6C n Φ x m w i k =(Y4 n Φ y m w k).bind fun r=>some (r,i)
 | 0,_,_=>rfl
 | m+1,k,w=>by
  simp only[a6C,Y4,cl35 h m,h,NF];cases ltB k (y.l.length:Int)
  ·rfl
  simp only[NF]
theorem cl31 {n:Nat}{Φ:p8}{o nn a:Int}{s:Str}{t:Typ}{ts:List Typ}{ps:List Nod}{b:Nod}(hp:∀y∈ps,y.op=10)(hb:b.op=20)(hL:ps.length<=100000):∀(m i:Nat) (w:List Str),ps.length+1<m+i->i<=ps.length->Y6 n Φ ⟨o,s,nn,t,ts,ps++[b],a⟩ m w i =(Y4 n Φ b n w 0).bind some
 | 0,i,w,h1,h2=>zOm
 | m+1,i,w,h1,h2=>by
  have hl:(ps++[b]).length=ps.length+1:=zSi;rw[Y6.eq_2,a04 (show(i:Int)<((ps++[b]).length:Int)by omega)];rcases Nat.lt_or_ge i ps.length with h|h
  ·have e:idx' (ps++[b]) (i:Int)=some ps[i]:=b7C h (a1h h);simp only[NF,e,a5N (show ¬(ps[i]).op=20 by rw[hp _ (List.getElem_mem h)];decide),S9 (show i<=1000000000000 by omega)];exact cl31 hp hb hL m (i+1) w zOm h
  obtain rfl:i=ps.length:=by omega
  have e:idx' (ps++[b]) (ps.length:Int)=some b:=by rw[a1h zSi];simp
  obtain⟨m,rfl⟩:∃q,m=q+1:=⟨m-1,zOm⟩
  simp only[NF,e,a5O hb,cl35 (x:=⟨o,s,nn,t,ts,ps++[b],a⟩) e,S9 (show ps.length<=1000000000000 by omega),Y6.eq_2,a2e (show ¬((ps.length+1:Nat):Int)<((ps++[b]).length:Int)by omega)]
theorem cls_of {s:Str}{ps:List Nod}{b:Nod}(hp:∀y∈ps,y.op=10)(hb:b.op=20)(hn:ps.length+13<=n)(hL:ps.length<=100000):a0C n ⟨o,s,nn,t,ts,ps++[b],a⟩ [10]=some ps/\a0C n ⟨o,s,nn,t,ts,ps++[b],a⟩ [20]=some [b]/\a2W n ⟨o,s,nn,t,ts,ps++[b],a⟩ [10]=some ps:=by
 have hl:(ps++[b]).length=ps.length+1:=zSi;have h1:=@ofs n ⟨o,s,nn,t,ts,ps++[b],a⟩ 10 (by show(ps++[b]).length+12<=n;omega) (by show(ps++[b]).length<=_;omega);have h2:=@ofs n ⟨o,s,nn,t,ts,ps++[b],a⟩ 20 (by show(ps++[b]).length+12<=n;omega) (by show(ps++[b]).length<=_;omega);have f1:=flo (q:=10) hp;have f2:=flo (q:=20) hp;have f3:=flo (l:=[b]) (q:=10) (a5I hb);have f4:=flo (l:=[b]) (q:=20) (a5I hb);rw[h1.1,h1.2,h2.1];simp only[List.flatMap_append,List.filter_append,f1,f2,f3,f4,Int.reduceEq,decide_true,decide_false,cond_true,cond_false,List.append_nil,List.nil_append,and_self]
structure PX (k:Nat):Prop where
 e:∀{x:Nod} {n n':Nat},(G V0 0 x∨G V0 6 x)->x.sz<=k->bkn x<=30000->20*x.sz+50<=n->20*x.sz+50<=n'->SW (8*x.sz-2) (bkn x) (fun w=>(j6.fs n).I7 x w) (fun w=>(p8.fs n').R8 w x)
 s:∀{x:Nod} {n n':Nat},(G V0 1 x∨G V0 19 x)->x.sz<=k->bkn x<=30000->20*x.sz+50<=n->20*x.sz+50<=n'->SW (8*x.sz-2) (bkn x) (fun w=>(j6.fs n).V4 x w) (fun w=>(p8.fs n').Z6 w x)
 b:∀{x:Nod} {n n':Nat},G V0 2 x->x.sz<=k->bkn x<=30000->20*x.sz+50<=n->20*x.sz+50<=n'->SW (8*x.sz-2) (bkn x) (fun w=>(j6.fs n).K8 x w) (fun w=>(p8.fs n').Z6 w x)
section
variable {k:Nat} (hk:k<=20000) (IH:PX k) {l:List Nod} (h1:szN l<=k) (hb:bkN l<=30000)
include hk IH h1 hb
theorem x_list (hl:∀y∈l,G V0 0 y∨G V0 6 y)(hn:20*szN l+50<=n)(hn':20*szN l+50<=n'):SW (8*szN l) (bkN l) (fun w=>K7 n (j6.fs n) l n 0 w) (fun w=>a1C n' (p8.fs n') l n' w 0):=by
 have hL:=I8 l;have pr1:=fun{y:Nod} (hy:y∈l)=>IH.e (x:=y) (n:=n) (n':=n') (hl y hy) (by have:=a0L hy;omega) (by have:=a6t hy;omega) (by have:=a0L hy;omega) (by have:=a0L hy;omega);have lp1:=lpw (l:=l) 0 (c:=fun r=>8*szN r) (b:=bkN) (L:=fun m i w=>K7 n (j6.fs n) l m i w) (R:=fun m i w=>a1C n' (p8.fs n') l m w i) zOm (fun m m' i x r hx hi hi0 h1 h2 h3 hz ih=>pz hz (fun z1 z2=>by
  have hx1:=x.H8;simp only[K7.eq_2,a1C.eq_2,h1,h2,h3,z1,z2];exact pt) fun z1 z2=>by
  have hx1:=x.H8;simp only[K7.eq_2,a1C.eq_2,h1,h2,h3,z1,z2];exact pt) (fun m m' h1=>by
  simp only[K7.eq_2,a1C.eq_2,h1];exact pt) n n' 0 zOm zOm (Nat.zero_le _) (Nat.zero_le _)
 simp only[zD]at lp1;exact lp1
theorem x_lit (hl:∀y∈l,G V0 0 y∨G V0 6 y){s:Str}(hn:20*szN l+50<=n)(hn':20*szN l+50<=n'):SW (8*szN l) (bkN l) (fun w=>K7 n (j6.fs n) l n 0 w) (fun w=>a0F n' (p8.fs n') ⟨67,s,nn,t,ts,l,a⟩ n' w 0):=by
 have hL:=I8 l;have pr1:=fun{y:Nod} (hy:y∈l)=>IH.e (x:=y) (n:=n) (n':=n') (hl y hy) (by have:=a0L hy;omega) (by have:=a6t hy;omega) (by have:=a0L hy;omega) (by have:=a0L hy;omega);have lp1:=lpw (l:=l) 0 (c:=fun r=>8*szN r) (b:=bkN) (L:=fun m i w=>K7 n (j6.fs n) l m i w) (R:=fun m i w=>a0F n' (p8.fs n') ⟨67,s,nn,t,ts,l,a⟩ m w i) zOm (fun m m' i x r hx hi hi0 h1 h2 h3 hz ih=>pz hz (fun z1 z2=>by
  have hx1:=x.H8;simp only[K7.eq_2,a0F.eq_2,h1,h2,h3,z1,z2];exact pt) fun z1 z2=>by
  have hx1:=x.H8;simp only[K7.eq_2,a0F.eq_2,h1,h2,h3,z1,z2];exact pt) (fun m m' h1=>by
  simp only[K7.eq_2,a0F.eq_2,h1];exact pt) n n' 0 zOm zOm (Nat.zero_le _) (Nat.zero_le _)
 simp only[zD]at lp1;exact lp1
theorem c73 (hl:∀y∈l,G V0 1 y){s:Str}(hn:20*szN l+50<=n)(hn':20*szN l+50<=n'):SW (8*szN l) (bkN l) (fun w=>O4 n (j6.fs n) ⟨20,s,nn,t,ts,l,a⟩ n 0 w) (fun w=>Y4 n' (p8.fs n') ⟨20,s,nn,t,ts,l,a⟩ n' w 0):=by
 have hL:=I8 l;have pr1:=fun{y:Nod} (hy:y∈l)=>IH.s (x:=y) (n:=n) (n':=n') (.inl (hl y hy)) (by have:=a0L hy;omega) (by have:=a6t hy;omega) (by have:=a0L hy;omega) (by have:=a0L hy;omega);have lp1:=lpw (l:=l) 0 (c:=fun r=>8*szN r) (b:=bkN) (L:=fun m i w=>O4 n (j6.fs n) ⟨20,s,nn,t,ts,l,a⟩ m i w) (R:=fun m i w=>Y4 n' (p8.fs n') ⟨20,s,nn,t,ts,l,a⟩ m w i) zOm (fun m m' i x r hx hi hi0 h1 h2 h3 hz ih=>pz hz (fun z1 z2=>by
  have hx1:=x.H8;simp only[O4.eq_2,Y4.eq_2,h1,h2,h3,z1,z2];exact pt) fun z1 z2=>by
  have hx1:=x.H8;simp only[O4.eq_2,Y4.eq_2,h1,h2,h3,z1,z2];exact pt) (fun m m' h1=>by
  simp only[O4.eq_2,Y4.eq_2,h1];exact pt) n n' 0 zOm zOm (Nat.zero_le _) (Nat.zero_le _)
 simp only[zD]at lp1;exact lp1
theorem x_arms (hl:∀y∈l,G V0 5 y){m':Nat}(hm:szN l+2<=m'){y:Nod}{s:Str}(hn:20*szN l+60<=n)(hn':20*szN l+60<=n'):SW (8*szN l) (bkN l) (fun w=>N9 n (j6.fs n) l n 0 w) (fun w=>R7 n' (p8.fs n') ⟨26,s,nn,t,ts,y::l,a⟩ m' w 1):=by
 have hL:=I8 l;have lp1:=lpw (l:=l) 0 (c:=fun r=>8*szN r) (b:=bkN) (L:=fun m i w=>N9 n (j6.fs n) l m i w) (R:=fun m i w=>R7 n' (p8.fs n') ⟨26,s,nn,t,ts,y::l,a⟩ m w (i+1)) zOm (fun m m' i x r hx hi hi0 h1 h2 h3 hz ih=>pz hz (fun z1 z2=>by
  have hs1:=a0L hx;have hb1:=a6t hx;obtain⟨p,b,c,rfl,h5,h6⟩:=g5 (hl _ hx);have f1:ltB ((i:Int)+1) ((y::l).length:Int)=true:=a04 (by simp;omega);have f2:idx' (y::l) ((i:Int)+1)=some ⟨27,[],0,zT,[],[p,b],c⟩:=idx_c h2 hi;have f3:eqB ((i:Int)+1) 0=false:=a5N zOm;have f4:w64 ((i:Int)+1+1) =((i+1:Nat):Int)+1:=by rw[a1i zOm zOm];omega
  have fin:=LN;have hx1:=p.H8;have hx2:=b.H8;simp only[WN]at hs1 hb1;have pr1:=IH.b (x:=b) (n:=n) (n':=n') h6 zOm zOm zOm zOm;have pr2:=pat_w p.sz p n n' (Nat.le_refl _) zOm zOm h5 zOm zOm;simp only[f1,f2,f3,f4,O8,LN,Int.reduceLT,decide_true,N9.eq_2,R7.eq_2,h1,h2,h3,z1,z2];exact pt) fun z1 z2=>by
  have hs1:=a0L hx;have hb1:=a6t hx;obtain⟨p,b,c,rfl,h5,h6⟩:=g5 (hl _ hx);have f1:ltB ((i:Int)+1) ((y::l).length:Int)=true:=a04 (by simp;omega);have f2:idx' (y::l) ((i:Int)+1)=some ⟨27,[],0,zT,[],[p,b],c⟩:=idx_c h2 hi;have f3:eqB ((i:Int)+1) 0=false:=a5N zOm;have f4:w64 ((i:Int)+1+1) =((i+1:Nat):Int)+1:=by rw[a1i zOm zOm];omega
  have fin:=LN;have hx1:=p.H8;have hx2:=b.H8;simp only[WN]at hs1 hb1;have pr1:=IH.b (x:=b) (n:=n) (n':=n') h6 zOm zOm zOm zOm;have pr2:=pat_w p.sz p n n' (Nat.le_refl _) zOm zOm h5 zOm zOm;simp only[f1,f2,f3,f4,O8,LN,Int.reduceLT,decide_true,N9.eq_2,R7.eq_2,h1,h2,h3,z1,z2];exact pt) (fun m m' h1=>by
  have f1:ltB ((l.length:Int)+1) ((y::l).length:Int)=false:=a2e zSi;simp only[f1,N9.eq_2,R7.eq_2,h1];exact pt) n m' 0 zOm zOm (Nat.zero_le _) (Nat.zero_le _)
 simp only[zD,Int.zero_add]at lp1;exact lp1
end
theorem ip_at:∀{ps:List (Nod×Nod)} {x:Nod},TX V0 x ->(∀p∈ps,G V0 0 p.1) ->(∀p∈ps,TX V0 p.2) -> ∀(i:Nat) (h:i<(x::fl ps).length),(i%2=0->TX V0 (x::fl ps)[i])/\(i%2=1->G V0 0 (x::fl ps)[i])
 | _,_,hx,_,_,0,_=>⟨fun _=>hx,fun h=>(by cases h)⟩
 | [],_,_,_,_,i+1,h=>by simp[fl]at h
 | p::r,_,_,h1,h2,1,_=>⟨fun h=>(by cases h),fun _=>h1 p List.mem_cons_self⟩
 | p::r,_,_,h1,h2,i+2,h=>by
  have:=ip_at (ps:=r) (h2 p List.mem_cons_self) (fun q hq=>h1 q (List.mem_cons_of_mem _ hq)) (fun q hq=>h2 q (List.mem_cons_of_mem _ hq)) i (by simp[fl]at h ⊢;omega);rw[Nat.add_mod_right];exact this
theorem ip_len:∀ps:List (Nod×Nod),(fl ps).length%2=0
 | []=>rfl
 | p::r=>by have:=ip_len r;simp only[fl,List.length_cons];omega
theorem ip_w {k:Nat}(hk:k<=20000)(IH:PX k){x:Nod}{ps:List (Nod×Nod)}{s:Str}(h1:TX V0 x)(h2:ps ≠ [])(h3:∀p∈ps,G V0 0 p.1)(h4:∀p∈ps,TX V0 p.2)(hs:szN (x::fl ps)<=k)(hb:bkN (x::fl ps)<=30000)(hn:20*szN (x::fl ps)+50<=n)(hn':20*szN (x::fl ps)+50<=n'):SW (8*szN (x::fl ps)) (bkN (x::fl ps)) (fun w=>V3 n (j6.fs n) ⟨53,s,nn,t,ts,x::fl ps,a⟩ n 0 w) (fun w=>a03 n' (p8.fs n') ⟨53,s,nn,t,ts,x::fl ps,a⟩ n' w 0):=by
 have hL:=I8 (x::fl ps);have hlen:=ip_len ps;have hpos:2 <=(fl ps).length:=by
  cases ps with
  | nil=>exact absurd rfl h2
  | cons p r=>simp[fl]
 have hat:=ip_at h1 h3 h4;have hl:(x::fl ps).length =(fl ps).length+1:=rfl;have pr1:=fun{y:Nod} (hy:y∈x::fl ps) (hG:G V0 0 y)=>IH.e (x:=y) (n:=n) (n':=n') (.inl hG) (by have:=a0L hy;omega) (by have:=a6t hy;omega) (by have:=a0L hy;omega) (by have:=a0L hy;omega);have lp1:=lpw (l:=x::fl ps) 0 (c:=fun r=>8*szN r) (b:=bkN) (L:=fun m i w=>V3 n (j6.fs n) ⟨53,s,nn,t,ts,x::fl ps,a⟩ m i w) (R:=fun m i w=>a03 n' (p8.fs n') ⟨53,s,nn,t,ts,x::fl ps,a⟩ m w i) zOm (fun m m' i y r hx hi hi0 e1 e2 e3 hz ih=>by
  have hy:=y.H8;have hb1:=a6t hx;have hyi:y =(x::fl ps)[i]:=by rw[a1h hi]at e2;exact(Option.some.inj e2).symm
  have e4:ltB ((i+1:Nat):Int) ((x::fl ps).length:Int)=decide (i+1<(x::fl ps).length):=by unfold ltB;exact decide_eq_decide.2 zOm
  have e5:w64 (((x::fl ps).length:Int)-1) =((fl ps).length:Int):=by rw[a1i zOm zOm];omega
  have e6:decide ((i:Int) =((fl ps).length:Int))=decide (i =(fl ps).length):=decide_eq_decide.2 zOm;have e7:Int.tmod (i:Int) 2 =((i%2:Nat):Int):=rfl;simp only[V3.eq_2,a03.eq_2,e1,e2,e3,e4,e5,e7,PF,a5M,e6];rcases Nat.mod_two_eq_zero_or_one i with h|h
  ·obtain⟨hT⟩:=hyi▸(hat i hi).1 h;simp only[WN]at hb1;have f1:decide (((i%2:Nat):Int)=1)=false:=by rw[h];rfl
   simp only[f1];rcases hz with⟨rfl,z1,z2⟩ |⟨z1,z2⟩
   ·have f2:decide (0+1<(x::fl ps).length)=true:=decide_eq_true zOm;rw[a5M]at z2;simp only[z1,z2,f2];exact pt
   rw[a5M]at z2;by_cases hi2:i =(fl ps).length
   ·have f2:decide (i+1<(x::fl ps).length)=false:=decide_eq_false zOm;have f3:decide (i =(fl ps).length)=true:=decide_eq_true hi2;simp only[z1,z2,f2,f3];exact pt
   have f2:decide (i+1<(x::fl ps).length)=true:=decide_eq_true zOm;have f3:decide (i =(fl ps).length)=false:=decide_eq_false hi2;simp only[z1,z2,f2,f3];exact pt
  ·have hG:=hyi▸(hat i hi).2 h;have f1:decide (((i%2:Nat):Int)=1)=true:=by rw[h];rfl
   simp only[f1];exact pt) (fun m m' e1=>by
  simp only[V3.eq_2,a03.eq_2,e1];exact pt) n n' 0 zOm zOm (Nat.zero_le _) (Nat.zero_le _)
 simp only[zD]at lp1;exact lp1
section
variable {k:Nat} (hk:k+1<=20000) (IH:PX k) {x:Nod} {q p:Nat} (hs:x.sz<=k+1) (hb:bkn x<=30000) (hn:20*x.sz+50<=q+8) (hn':20*x.sz+50<=p+8)
include hk IH hs hb hn hn'
theorem c71 (hG:G V0 0 x):SW (8*x.sz-2) (bkn x) (fun w=>a0b (q+7) (j6.fs (q+7)) x w) (fun w=>a4l (p+7) (p8.fs (p+7)) w x):=by
 have hx:=x.H8;have pr1:=fun{y n n'} (h:G V0 0 y∨G V0 6 y)=>IH.e (x:=y) (n:=n) (n':=n') h;have pr2:=fun{t b n n'}=>@b3B t b n n';have lp1:=fun{l n n'} (hl:∀y∈l,G V0 6 y) (h:szN l<=k) (hb:bkN l<=30000)=>x_list (l:=l) (n:=n) (n':=n') zOm IH h hb fun y hy=>.inr (hl y hy);have fin:=LN;cases hG with
 | @int s a h1 =>
  have hd:ltB ((a6w s 0:Nat):Int) 0=false:=a2e zOm;have fin:=And.intro (itoas (b75 (h1 rfl))) hd;exact px
 | @interp y ps a h1 h2 h3 h4 =>
  simp only[WN]at hs hb hn hn';have lp2:=fun{n n'}=>ip_w (n:=n) (n':=n') (s:=[]) (nn:=0) (a:=a) (t:=zT) (ts:=[]) zOm IH h1 h2 h3 h4 (by simp only[WN];omega) (by simp only[WN];omega);exact px
 | @clos t ps ss a b h1 h2 h3 =>
  simp only[WN]at hs hb hn hn';have hps:∀y∈ps,y.op=10:=fun y hy=>by obtain⟨_,_,_,_,rfl,_⟩:=g4 (h2 y hy);rfl
  have hL:=I8 ps;have lp1:=fun{n n'}=>par_w (n:=n) (n':=n') h2 zOm zOm;have lp2:=fun{n n'}=>c73 (n:=n) (n':=n') (s:=[]) (nn:=0) (a:=b) (t:=zT) (ts:=[]) zOm IH (l:=ss) zOm zOm h3;have o1:=cls_of (n:=q+6) (o:=63) (nn:=0) (a:=a) (s:=[]) (t:=t) (ts:=[]) (b:=⟨20,[],0,zT,[],ss,b⟩) hps rfl zOm zOm;have o2:=cls_of (n:=p+6) (o:=63) (nn:=0) (a:=a) (s:=[]) (t:=t) (ts:=[]) (b:=⟨20,[],0,zT,[],ss,b⟩) hps rfl zOm zOm;have o3:∀w,Y6 (p+6) (p8.fs (p+6)) ⟨63,[],0,t,[],ps++[⟨20,[],0,zT,[],ss,b⟩],a⟩ (p+6) w 0=_:=fun w=>cl31 (n:=p+6) (Φ:=p8.fs (p+6)) (o:=63) (nn:=0) (a:=a) (s:=[]) (t:=t) (ts:=[]) (b:=⟨20,[],0,zT,[],ss,b⟩) hps rfl zOm (p+6) 0 w zOm zOm;have o4:decide (((ps++[(⟨20,[],0,zT,[],ss,b⟩:Nod)]).length:Int)=0)=false:=decide_eq_false (by simp;omega);have fin:=And.intro o1 (And.intro o2 (And.intro o3 (And.intro o4 (And.intro (@a1k.eq_2) (And.intro (@cl9) LN)))));rcases res4 h1 with⟨d,hb4⟩ |⟨d,h1⟩
  ·exact px
  exact px
 | un h1 h2 =>
  simp only[WN]at hs hb hn hn';rcases h1 with rfl|rfl
  ·exact px
  exact px
 | @list l a h1 =>
  simp only[WN]at hs hb hn hn';have lp2:=fun{n n'}=>x_lit (n:=n) (n':=n') (s:=[]) (nn:=0) (a:=a) (t:=zT) (ts:=[]) zOm IH (l:=l) zOm zOm fun y hy=>.inl (h1 y hy);exact px
 | _ =>
  simp only[WN]at hs hb hn hn';exact px
theorem x_expr6 (hG:G V0 6 x):SW (8*x.sz-2) (bkn x) (fun w=>a0b (q+7) (j6.fs (q+7)) x w) (fun w=>a4l (p+7) (p8.fs (p+7)) w x):=by
 have pr1:=fun{y n n'} (h:G V0 0 y∨G V0 6 y)=>IH.e (x:=y) (n:=n) (n':=n') h;have fin:=LN;cases hG with
 | lend h1 h2 =>
  simp only[WN]at hs hb hn hn';exact px
 | arg h1=>exact c71 hk IH hs hb hn hn' h1
omit hk IH hs hb hn hn' in
theorem br18 {n m:Nat}{Φ:p8}{s:Str}{nn a:Int}{t:Typ}{ts:List Typ}{y:Nod}{l:List Nod}{w:List Str}:R7 n Φ ⟨26,s,nn,t,ts,y::l,a⟩ (m+1) w 0 =(Φ.R8 w y).bind fun r=>(app 16 r [[123]]).bind fun r=>R7 n Φ ⟨26,s,nn,t,ts,y::l,a⟩ m r 1:=by
 rw[R7.eq_2];simp only[LN,NF,a5O (show(0:Int)=0 from rfl)]
theorem x_block (hG:G V0 2 x):SW (8*x.sz-2) (bkn x) (fun w=>a0g (q+7) (j6.fs (q+7)) x w) (fun w=>a3f (p+7) (p8.fs (p+7)) w x):=by
 cases hG with
 | @block l a h1 =>
  simp only[WN]at hs hb hn hn';have lp1:=fun{n n'}=>c73 (n:=n) (n':=n') (s:=[]) (nn:=0) (a:=a) (t:=zT) (ts:=[]) zOm IH (l:=l) zOm zOm h1;have fin:=LN;exact px
omit hk IH hs hb hn hn' in
theorem opG {x:Nod}:(G V0 2 x->decide (x.op=24)=false)/\(G V0 19 x->decide (x.op=24)=true):=⟨fun h=>by cases h;rfl,fun h=>by cases h<;>rfl⟩
theorem x_if (hG:G V0 19 x):SW (8*x.sz-2) (bkn x) (fun w=>Y1 (q+7) (j6.fs (q+7)) x w) (fun w=>a3f (p+7) (p8.fs (p+7)) w x):=by
 have pr1:=fun{y n n'} (h:G V0 0 y∨G V0 6 y)=>IH.e (x:=y) (n:=n) (n':=n') h;have pr2:=fun{t b n n'}=>@b3B t b n n';have pr3:=fun{y n n'} (h:G V0 2 y)=>IH.b (x:=y) (n:=n) (n':=n') h;have pr4:=fun{y n n'} (h:G V0 1 y∨G V0 19 y)=>IH.s (x:=y) (n:=n) (n':=n') h;have fin:=And.intro (@a2F.eq_2) (And.intro (@a2G.eq_2) (And.intro (@a2H.eq_2) (And.intro (@a13.eq_2) (And.intro (@a1z.eq_2) (And.intro (@a1A.eq_2) LN)))));cases hG with
 | if2 h1 h2 =>
  simp only[WN]at hs hb hn hn';exact px
 | if3 h1 h2 h3 =>
  simp only[WN]at hs hb hn hn';have ho:=opG.1 h3;exact px
 | if4 h1 h2 h3 =>
  simp only[WN]at hs hb hn hn';have ho:=opG.2 h3;exact px
theorem x_stat (hG:G V0 1 x∨G V0 19 x):SW (8*x.sz-2) (bkn x) (fun w=>Y1 (q+7) (j6.fs (q+7)) x w) (fun w=>a3f (p+7) (p8.fs (p+7)) w x):=by
 have pr1:=fun{y n n'} (h:G V0 0 y∨G V0 6 y)=>IH.e (x:=y) (n:=n) (n':=n') h;have pr2:=fun{t b n n'}=>@b3B t b n n';have pr3:=fun{y n n'} (h:G V0 2 y)=>IH.b (x:=y) (n:=n) (n':=n') h;have pr4:=fun{y n n'} (h:G V0 1 y∨G V0 19 y)=>IH.s (x:=y) (n:=n) (n':=n') h;have fin:=And.intro (@a2F.eq_2) (And.intro (@a2G.eq_2) (And.intro (@a2H.eq_2) (And.intro (@a13.eq_2) (And.intro (@a1z.eq_2) (And.intro (@a1A.eq_2) LN)))));rcases hG with hG|hG
 ·cases hG with
  | ifs h=>exact x_if hk IH hs hb hn hn' h
  | @let0 s t a h1 h2 =>
   simp only[WN]at hs hb hn hn';have hd:decide (t.kind=0)=false:=decide_eq_false (c08 h2).2.2.2.1;exact px
  | @let1 s n t y a h1 h2 h3 h4 =>
   simp only[WN]at hs hb hn hn';rcases h3 with rfl|h3
   ·exact px
   have hd:decide (t.kind=0)=false:=decide_eq_false (c08 h3).2.2.2.1;exact px
  | @mat y l a h1 h2 =>
   simp only[WN]at hs hb hn hn';have lp1:=fun{n n' m'} hm=>x_arms (n:=n) (n':=n') (m':=m') (y:=y) (s:=[]) (nn:=0) (a:=a) (t:=zT) (ts:=[]) zOm IH (l:=l) zOm zOm h2 hm;have fin:=And.intro (@br18) LN;exact px
  | _ =>
   simp only[WN]at hs hb hn hn';exact px
 exact x_if hk IH hs hb hn hn' hG
end
theorem px_all:∀k,k<=20000->PX k
 | 0,_=>by constructor<;>(intro x n n' _ h;have:=x.H8;omega)
 | k+1,hk=>by
  have IH:=px_all k zOm;constructor
  ·intro x n n' hG hs hb hn hn';obtain⟨q,rfl⟩:∃q,n=q+8:=⟨n-8,zOm⟩
   obtain⟨p,rfl⟩:∃p,n'=p+8:=⟨n'-8,zOm⟩
   exact hG.elim (c71 hk IH hs hb hn hn') (x_expr6 hk IH hs hb hn hn')
  ·intro x n n' hG hs hb hn hn';obtain⟨q,rfl⟩:∃q,n=q+8:=⟨n-8,zOm⟩
   obtain⟨p,rfl⟩:∃p,n'=p+8:=⟨n'-8,zOm⟩
   exact x_stat hk IH hs hb hn hn' hG
  intro x n n' hG hs hb hn hn';obtain⟨q,rfl⟩:∃q,n=q+8:=⟨n-8,zOm⟩
  obtain⟨p,rfl⟩:∃p,n'=p+8:=⟨n'-8,zOm⟩
  exact x_block hk IH hs hb hn hn' hG
variable {gs rs th:List Nod} {n n':Nat} {x:Nod}
theorem opc:(G V0 8 x->x.op=8)/\(G V0 4 x->x.op=10)/\(G V0 10 x->x.op=11)/\(G V0 9 x->x.op=12)/\(G V0 2 x->x.op=20)/\(G V0 13 x->x.op=13)/\(G V0 15 x->x.op=14)/\(G V0 14 x->x.op=15)/\(G V0 16 x->x.op=16)/\(G V0 17 x->x.op=17)/\(G V0 11 x->x.op=7)/\(G V0 12 x->x.op=7):=by
 refine⟨?_,?_,?_,?_,?_,?_,?_,?_,?_,?_,?_,?_⟩<;>(intro h;cases h<;>rfl)
theorem g7 (h:G V0 7 x):∃s a,x =⟨9,s,0,zT,[],[],a⟩:=by
 cases h with
 | bound _=>exact⟨_,_,rfl⟩
theorem g8 (h:G V0 8 x):∃s l a,x =⟨8,s,0,zT,[],l,a⟩ /\ ∀y∈l,G V0 7 y:=by
 cases h with
 | gen _ h=>exact⟨_,_,_,rfl,h⟩
theorem g9 (h:G V0 9 x):(∃s t a,x =⟨12,s,1,t,[],[],a⟩/\GT V0 false t) ∨ ∃t u a,x =⟨12,[],2,t,[u],[],a⟩/\GT V0 false t/\GT V0 false u:=by
 cases h with
 | rq1 h1 _=>exact .inl ⟨_,_,_,rfl,h1⟩
 | rq2 h1 h2=>exact .inr ⟨_,_,_,rfl,h1,h2⟩
theorem g10 (h:G V0 10 x):∃t a,x =⟨11,[],0,t,[],[],a⟩/\GT V0 false t:=by
 cases h with
 | thr h1=>exact⟨_,_,rfl,h1⟩
theorem bnd_w (hl:∀y∈x.l,G V0 7 y)(hs:szN x.l<=20000)(hn:szN x.l+5<=n)(hn':szN x.l+5<=n'):SW (8*szN x.l) (bkN x.l) (fun w=>a0z n x w) (fun w=>a5a n' w x):=by
 have hL:=I8 x.l;have lp1:=lpw (l:=x.l) 0 (c:=fun r=>8*szN r) (b:=bkN) (L:=fun m i w=>X7 n x m i w) (R:=fun m i w=>a1N n' x m w i) zOm (fun m m' i y r hx hi hi0 h1 h2 h3 hz ih=>pz hz (fun z1 z2=>by
  obtain⟨s,a,rfl⟩:=g7 (hl _ hx);simp only[X7.eq_2,a1N.eq_2,h1,h2,h3,z1,z2];exact pt) fun z1 z2=>by
  obtain⟨s,a,rfl⟩:=g7 (hl _ hx);simp only[X7.eq_2,a1N.eq_2,h1,h2,h3,z1,z2];exact pt) (fun m m' h1=>by
  simp only[X7.eq_2,a1N.eq_2,h1];exact pt) n n' 0 zOm zOm (Nat.zero_le _) (Nat.zero_le _)
 simp only[zD]at lp1;unfold a0z a5a;exact pt
theorem gen_w (o1:a0C n x [8]=some gs)(o2:a2W n' x [8]=some gs)(hg:∀y∈gs,G V0 8 y)(hs:szN gs<=20000)(hn:szN gs+10<=n)(hn':szN gs+10<=n'):SW (8*szN gs) (bkN gs) (fun w=>a0u n x w) (fun w=>a2L n' w x):=by
 obtain⟨q,rfl⟩:∃q,n=q+1:=⟨n-1,zOm⟩
 obtain⟨p,rfl⟩:∃p,n'=p+1:=⟨n'-1,zOm⟩
 have pr1:=fun{x:Nod} {n n':Nat} (h:∀y∈x.l,G V0 7 y) (h2:szN x.l<=20000)=>bnd_w (n:=n) (n':=n') h h2;unfold a0u a2L a6J;simp only[o1,o2];cases gs with
 | nil =>
  have fin:=And.intro (@a0D.eq_2) LN;exact pt
 | cons y r =>
  have hL:=I8 (y::r);have lp1:=lpw (l:=y::r) 1 (c:=fun r=>8*szN r) (b:=bkN) (L:=fun m i w=>a0Q (q+1) (y::r) m i w) (R:=fun m i w=>a0D (p+1) (y::r) m w i) zOm (fun m m' i z r' hx hi hi0 h1 h2 h3 hz ih=>by
   obtain⟨z1,z2⟩:=hz.resolve_left zOm;have hs1:=a0L hx;obtain⟨s,l,a,rfl,h5⟩:=g8 (hg _ hx);simp only[WN]at hs1;simp only[a0n,a0Q.eq_2,a0D.eq_2,h1,h2,h3,z1,z2];exact pt) (fun m m' h1=>by
   simp only[a0n,a0Q.eq_2,a0D.eq_2,h1];exact pt) q p 1 zOm zOm zSi (Nat.le_refl _)
  simp only[List.drop_succ_cons,zD]at lp1;obtain⟨s,l,a,rfl,h5⟩:=g8 (hg _ List.mem_cons_self);simp only[WN]at hs hn hn' hL;have fin:=And.intro (@a0D.eq_2) (And.intro (@a0Q.eq_2) (And.intro (@a0n.eq_1) LN));exact pt
theorem lt1 {q:Nat}{u:Typ}{w:List Str}:(w9.fs (q+3)).Q7 [u] w =(w9.fs (q+2)).J7 u w:=ly1
theorem whr_w (o1:a0C n x [12]=some rs)(o2:a2W n' x [12]=some rs)(hg:∀y∈rs,G V0 9 y)(hs:szN rs<=20000)(hn:10*szN rs+20<=n)(hn':10*szN rs+20<=n'):SW (8*szN rs) (bkN rs) (fun w=>a1y n x w) (fun w=>a4k n' w x):=by
 obtain⟨q,rfl⟩:∃q,n=q+3:=⟨n-3,zOm⟩
 obtain⟨p,rfl⟩:∃p,n'=p+1:=⟨n'-1,zOm⟩
 have pr2:=fun{t b n n'}=>@b3B t b n n';unfold a1y a4k a5h;simp only[o1,o2];cases rs with
 | nil =>
  have fin:=And.intro (@a0J.eq_2) LN;exact pt
 | cons y r =>
  have hL:=I8 (y::r);have lp1:=lpw (l:=y::r) 1 (c:=fun r=>8*szN r) (b:=bkN) (L:=fun m i w=>Z4 (q+3) (y::r) m i w) (R:=fun m i w=>a0J (p+1) (y::r) m w i) zOm (fun m m' i z r' hx hi hi0 h1 h2 h3 hz ih=>by
   obtain⟨z1,z2⟩:=hz.resolve_left zOm;have fin:=And.intro (@lt1) LN;have hs1:=a0L hx;rcases g9 (hg _ hx)with⟨s,t,a,rfl,h5⟩ |⟨t,u,a,rfl,h5,h6⟩<;>simp only[WN]at hs1<;>simp only[a1a,Z4.eq_2,a0J.eq_2,h1,h2,h3,z1,z2]<;>exact pt) (fun m m' h1=>by
   simp only[a1a,Z4.eq_2,a0J.eq_2,h1];exact pt) (q+2) p 1 zOm zOm zSi (Nat.le_refl _)
  simp only[List.drop_succ_cons,zD]at lp1;have fin:=And.intro (@a0J.eq_2) (And.intro (fun n l m w=>Z4.eq_2 n l 0 w m) (And.intro (@a1a.eq_1) (And.intro (@lt1) LN)));rcases g9 (hg _ List.mem_cons_self)with⟨s,t,a,rfl,h5⟩ |⟨t,u,a,rfl,h5,h6⟩<;>simp only[WN]at hs hn hn' hL<;>exact pt
theorem thr_w (hg:∀y∈th,G V0 10 y)(hs:szN th<=20000)(hn:10*szN th+20<=n)(hn':10*szN th+20<=n'):SW (8*szN th) (bkN th) (fun w=>R5 n n th (th.length:Int) 0 w) (fun w=>a0H n' th n' w 0):=by
 have hL:=I8 th;have pr2:=fun{t b n n'}=>@b3B t b n n';have lp1:=lpw (l:=th) 0 (c:=fun r=>8*szN r) (b:=bkN) (L:=fun m i w=>R5 n m th (th.length:Int) i w) (R:=fun m i w=>a0H n' th m w i) zOm (fun m m' i x r hx hi hi0 h1 h2 h3 hz ih=>pz hz (fun z1 z2=>by
  have hs1:=a0L hx;obtain⟨t,a,rfl,h5⟩:=g10 (hg _ hx);simp only[WN]at hs1;simp only[R5.eq_2,a0H.eq_2,h1,h2,h3,z1,z2];exact pt) fun z1 z2=>by
  have hs1:=a0L hx;obtain⟨t,a,rfl,h5⟩:=g10 (hg _ hx);simp only[WN]at hs1;simp only[R5.eq_2,a0H.eq_2,h1,h2,h3,z1,z2];exact pt) (fun m m' h1=>by
  simp only[R5.eq_2,a0H.eq_2,h1];exact pt) n n' 0 zOm zOm (Nat.zero_le _) (Nat.zero_le _)
 simp only[zD]at lp1;exact lp1
theorem blk_w {x:Nod}{n n':Nat}(h:G V0 2 x)(h1:x.sz<=20000)(hb:bkn x<=30000)(hn:20*x.sz+50<=n)(hn':20*x.sz+50<=n'):SW (8*x.sz-2) (bkn x) (fun w=>(j6.fs n).K8 x w) (fun w=>(p8.fs n').Z6 w x):=(px_all 20000 (Nat.le_refl _)).b h h1 hb hn hn'
theorem fns_of {s:Str}{k a:Int}{t:Typ}{ps bs:List Nod}(h1:∀y∈gs,y.op=8)(h2:∀y∈ps,y.op=10)(h3:∀y∈th,y.op=11)(h4:∀y∈rs,y.op=12)(h5:∀y∈bs,y.op=20)(hn:gs.length+(ps.length+(th.length+(rs.length+bs.length)))+12<=n)(hL:gs.length+(ps.length+(th.length+(rs.length+bs.length)))<=100000):∀o,(o=8∨o=10∨o=11∨o=12∨o=20)->a0C n ⟨7,s,k,t,[],gs ++(ps ++(th ++(rs++bs))),a⟩ [o]=some (cond (decide (o=8)) gs (cond (decide (o=10)) ps (cond (decide (o=11)) th (cond (decide (o=12)) rs bs))))/\a2W n ⟨7,s,k,t,[],gs ++(ps ++(th ++(rs++bs))),a⟩ [o]=some (cond (decide (o=8)) gs (cond (decide (o=10)) ps (cond (decide (o=11)) th (cond (decide (o=12)) rs bs)))):=by
 intro o ho;have hl:(gs ++(ps ++(th ++(rs++bs)))).length=gs.length+(ps.length+(th.length+(rs.length+bs.length))):=zSi;have e:=@ofs n ⟨7,s,k,t,[],gs ++(ps ++(th ++(rs++bs))),a⟩ o (by show(gs ++(ps ++(th ++(rs++bs)))).length+12<=n;omega) (by show(gs ++(ps ++(th ++(rs++bs)))).length<=_;omega);rw[e.1,e.2];simp only[List.flatMap_append,List.filter_append,flo (q:=o) h1,flo (q:=o) h2,flo (q:=o) h3,flo (q:=o) h4,flo (q:=o) h5];rcases ho with rfl|rfl|rfl|rfl|rfl<;>simp
theorem b0L {V:Int->Str->Prop}{l:List Nod}{c:Nat}{o:Int}(h:∀y∈l,G V c y)(g:∀{y},G V c y->y.op=o):∀y∈l,y.op=o:=fun y hy=>g (h y hy)
theorem fun_w (hG:G V0 11 x∨G V0 12 x)(hs:x.sz<=20000)(hb:bkn x<=30000)(hn:20*x.sz+70<=n)(hn':20*x.sz+70<=n'):SW (8*x.sz-2) (bkn x) (fun w=>P6 n x w) (fun w=>(a1B n' w x).bind fun r=>cond (decide (x.n=0)) ((app 16 r [[59]]).bind some) (some r)):=by
 have pr2:=fun{t b n n'}=>@b3B t b n n';have pr3:=fun{y n n'}=>@blk_w y n n';have key:∀(s:Str) (kk:Int) (t:Typ) (gs ps th rs bs:List Nod) (a:Int),(t=uT∨GT V0 false t) ->(∀y∈gs,G V0 8 y) ->(∀y∈ps,G V0 4 y) ->(∀y∈th,G V0 10 y) ->(∀y∈rs,G V0 9 y) ->((kk=0/\bs=[])∨(kk=1 /\ ∃b,bs=[b]/\G V0 2 b))->x =⟨7,s,kk,t,[],gs ++(ps ++(th ++(rs++bs))),a⟩->SW (8*x.sz-2) (bkn x) (fun w=>P6 n x w) (fun w=>(a1B n' w x).bind fun r=>cond (decide (x.n=0)) ((app 16 r [[59]]).bind some) (some r)):=by
  intro s kk t gs ps th rs bs a h1 h2 h3 h4 h5 h6 e;subst e;obtain⟨q,rfl⟩:∃q,n=q+2:=⟨n-2,zOm⟩
  obtain⟨p,rfl⟩:∃p,n'=p+2:=⟨n'-2,zOm⟩
  have ht:=t.H8;have l1:=I8 gs;have l2:=I8 ps;have l3:=I8 th;have l4:=I8 rs;have l5:=I8 bs;have hop:∀y∈bs,y.op=20:=by
   rcases h6 with⟨_,rfl⟩ |⟨_,b,rfl,g6⟩
   ·exact fun y hy=>by cases hy
   exact a5I (opc.2.2.2.2.1 g6)
  simp only[WN]at hs hb hn hn';have o1:=fun o ho=>fns_of (n:=q+2) (s:=s) (k:=kk) (a:=a) (t:=t) (gs:=gs) (ps:=ps) (th:=th) (rs:=rs) (bs:=bs) (b0L h2 opc.1) (b0L h3 opc.2.1) (b0L h4 opc.2.2.1) (b0L h5 opc.2.2.2.1) hop zOm zOm o ho;have o2:=fun o ho=>fns_of (n:=p+2) (s:=s) (k:=kk) (a:=a) (t:=t) (gs:=gs) (ps:=ps) (th:=th) (rs:=rs) (bs:=bs) (b0L h2 opc.1) (b0L h3 opc.2.1) (b0L h4 opc.2.2.1) (b0L h5 opc.2.2.2.1) hop zOm zOm o ho;have e8:=And.intro (o1 8 zDe).1 (o2 8 zDe).2;have e10:=And.intro (o1 10 zDe).1 (o2 10 zDe).2;have e11:=And.intro (o1 11 zDe).1 (o2 11 zDe).2;have e12:=And.intro (o1 12 zDe).1 (o2 12 zDe).2;have e20:=And.intro (o1 20 zDe).1 (o2 20 zDe).2;clear o1 o2;simp only[Int.reduceEq,decide_true,decide_false,cond_true,cond_false]at e8 e10 e11 e12 e20;have pr1:=gen_w e8.1 e8.2 h2 zOm zOm zOm;have pr4:=whr_w e12.1 e12.2 h5 zOm zOm zOm;have lp1:=par_w h3 zOm zOm (n:=q+2) (n':=p+2) zOm zOm;have lp2:=thr_w h4 zOm (n:=q+2) (n':=p+2) zOm zOm;have fin:=And.intro e10 (And.intro e11 (And.intro e20 (And.intro (@a0O.eq_2) (And.intro (@a3M.eq_2) LN))));unfold P6 a1B a07 a2s a08 a4V a5Z;rcases res4 h1 with⟨d,hb4⟩ |⟨d,h1⟩
  ·rcases h6 with⟨rfl,rfl⟩ |⟨rfl,b,rfl,h6⟩
   ·exact pt
   simp only[WN]at hs hb hn hn';exact pt
  rcases h6 with⟨rfl,rfl⟩ |⟨rfl,b,rfl,h6⟩
  ·exact pt
  simp only[WN]at hs hb hn hn';exact pt
 rcases hG with hG|hG
 ·cases hG with
  | @fn s t gs ps th rs xs b a h1 h2 e g1 g2 g3 g4 g5 g6=>exact key s 1 t gs ps th rs [b] a h2 g1 g2 g3 g5 (.inr ⟨rfl,b,rfl,g6⟩) (by rw[e];simp)
 cases hG with
 | @sg s t gs ps th rs xs a h1 h2 e g1 g2 g3 g4 g5=>exact key s 0 t gs ps th rs [] a h2 g1 g2 g3 g5 (.inl ⟨rfl,rfl⟩) (by rw[e];simp)
theorem mem_w (hG:G V0 13 x∨G V0 14 x∨G V0 15 x)(hs:x.sz<=20000)(hb:bkn x<=30000)(hn:20*x.sz+70<=n)(hn':20*x.sz+70<=n'):SW (8*x.sz-2) (bkn x) (fun w=>a1X n x w) (fun w=>a2n n' w x):=by
 obtain⟨q,rfl⟩:∃q,n=q+2:=⟨n-2,zOm⟩
 obtain⟨p,rfl⟩:∃p,n'=p+1:=⟨n'-1,zOm⟩
 have pr2:=fun{t b n n'}=>@b3B t b n n';have pr3:=fun{y n n'}=>@blk_w y n n';have e1:∀l w,Q7 (q+2) l w=V8 (q+1) (w9.fs (q+1)) l w:=fun _ _=>rfl;unfold a1X a2n;simp only[e1];unfold V8 O8;have fin:=LN;rcases hG with hG|hG|hG
 ·cases hG with
  | @fld s k t a h1 h2 h3 =>
   have ht:=t.H8;simp only[WN]at hs hb hn hn';rcases h2 with rfl|rfl
   ·exact pt
   exact pt
 ·cases hG with
  | @dei b a h1 =>
   simp only[WN]at hs hb hn hn';have fin:=And.intro (fun c m w=>a2E.eq_2 (p+1) c w 0 m) (And.intro (fun c m w=>a2E.eq_2 (p+1) c w 1 m) LN);obtain⟨p,rfl⟩:∃q,p=q+1:=⟨p-1,zOm⟩
   exact pt
 cases hG with
 | @case s k ts a h1 h2 hg =>
  simp only[WN]at hs hb hn hn';cases ts with
  | nil =>
   have fin:=And.intro (fun c m w=>a01.eq_2 (p+1) c w 0 m) LN;rcases h2 with rfl|rfl
   ·exact pt
   exact pt
  | cons y r =>
   have hL:=a6b (y::r);have hs2:szT (y::r)<=20000:=zOm;have lp1:=lpw (l:=y::r) 1 (c:=fun r=>8*szT r) (b:=bkT) (L:=fun m i w=>J2 (q+1) (w9.fs (q+1)) (y::r) m i w) (R:=fun m i w=>a01 (p+1) ⟨14,s,k,zT,y::r,[],a⟩ m w i) zOm (fun m m' i z r' hx hi hi0 h1 h2 h3 hz0 ih=>by
    obtain⟨z1,z2⟩:=hz0.resolve_left zOm;have hx1:=z.H8;have hz:=hg _ hx;have hs1:=a2I hx;simp only[J2.eq_2,a01.eq_2,h1,h2,h3,z1,z2];exact pt) (fun m m' h1=>by
    simp only[J2.eq_2,a01.eq_2,h1];exact pt) q p 1 zOm zOm zSi (Nat.le_refl _)
   simp only[List.drop_succ_cons,zD]at lp1;have hy:=hg y List.mem_cons_self;have hy1:=y.H8;simp only[WN]at hs hn hn' hL;have fin:=And.intro (fun c m w=>a01.eq_2 (p+1) c w 0 m) (And.intro (fun m w=>J2.eq_2 (q+1) (w9.fs (q+1)) (y::r) 0 w m) LN);rcases h2 with rfl|rfl
   ·exact pt
   exact pt
variable {l p:List Nod} {n n':Nat} {L:Nat->Int->List Str->Option (List Str)} {x y:Nod}
theorem FL:(!eqB (IntKind.wrap .i64 ((BitVec.ofInt 64 0 &&& BitVec.ofInt 64 1).toNat:Nat)) 0)=false/\(!eqB (IntKind.wrap .i64 ((BitVec.ofInt 64 0 &&& BitVec.ofInt 64 2).toNat:Nat)) 0)=false/\(!eqB (IntKind.wrap .i64 ((BitVec.ofInt 64 1 &&& BitVec.ofInt 64 1).toNat:Nat)) 0)=true/\(!eqB (IntKind.wrap .i64 ((BitVec.ofInt 64 1 &&& BitVec.ofInt 64 2).toNat:Nat)) 0)=false/\(!eqB (IntKind.wrap .i64 ((BitVec.ofInt 64 2 &&& BitVec.ofInt 64 1).toNat:Nat)) 0)=false/\(!eqB (IntKind.wrap .i64 ((BitVec.ofInt 64 2 &&& BitVec.ofInt 64 2).toNat:Nat)) 0)=true/\(!eqB (IntKind.wrap .i64 ((BitVec.ofInt 64 3 &&& BitVec.ofInt 64 1).toNat:Nat)) 0)=true/\(!eqB (IntKind.wrap .i64 ((BitVec.ofInt 64 3 &&& BitVec.ofInt 64 2).toNat:Nat)) 0)=true:=by simp only[a5M];decide
theorem MG3:(b6u eqB (2:Int) (a9t eqB 4 ([99,108,97,115,115]:Str) (a9t eqB 3 [101,110,117,109] (a9t eqB 2 [115,116,114,117,99,116] [])))).getD []=[115,116,114,117,99,116]/\(b6u eqB (3:Int) (a9t eqB 4 ([99,108,97,115,115]:Str) (a9t eqB 3 [101,110,117,109] (a9t eqB 2 [115,116,114,117,99,116] [])))).getD []=[101,110,117,109]/\(b6u eqB (4:Int) (a9t eqB 4 ([99,108,97,115,115]:Str) (a9t eqB 3 [101,110,117,109] (a9t eqB 2 [115,116,114,117,99,116] [])))).getD []=[99,108,97,115,115]:=by simp[b6u,a9t,eqB]
theorem mem_no (h:y.op=8∨y.op=12)(n:Nat)(w:List Str):a2n n w y=some w:=by
 unfold a2n;rcases h with h|h<;>simp only[h,a5M,Int.reduceEq,decide_false,NF]
theorem skp {n:Nat}{x:Nod}{p l:List Nod}(hx:x.l=p++l)(hp:∀y∈p,y.op=8∨y.op=12)(hL:(p++l).length<=100000):∀(d i m:Nat) (w:List Str),i+d=p.length->K3 n x (m+d) w i=K3 n x m w p.length
 | 0,i,m,w,h=>by obtain rfl:i=p.length:=h;rfl
 | d+1,i,m,w,h=>by
  have hl:(p++l).length=p.length+l.length:=List.length_append ..;have e:idx' (p++l) (i:Int)=some p[i]:=by rw[a1h (show i<(p++l).length by omega),List.getElem_append_left (show i<p.length by omega)]
  show K3 n x ((m+d)+1) w i=_;rw[K3.eq_2,hx,a04 zOm,e];simp only[NF,mem_no (hp _ (List.getElem_mem (show i<p.length by omega))),S9 (show i<=1000000000000 by omega)];exact skp hx hp hL d (i+1) m w zOm
theorem sh {i:Nat}(h:i<l.length)(hL:(p++l).length<=100000)(c2:idx' l (i:Int)=some y):ltB ((i:Int)+(p.length:Int)) (((p++l).length:Nat):Int)=true/\idx' (p++l) ((i:Int)+(p.length:Int))=some y/\w64 ((i:Int)+(p.length:Int)+1) =((i+1:Nat):Int)+(p.length:Int):=by
 rw[List.length_append]at hL;rw[a1h h]at c2;cases c2;have e:(i:Int)+(p.length:Int) =((i+p.length:Nat):Int):=zOm;refine⟨a04 (by rw[List.length_append];omega),?_,by rw[a1i zOm zOm];omega⟩;rw[e,a1h (by rw[List.length_append];omega),List.getElem_append_right zOm];simp
theorem fun_h {x:Nod}(hG:G V0 11 x∨G V0 12 x)(hs:x.sz<=20000)(hb:bkn x<=30000){n n':Nat}(hn:20*x.sz+70<=n)(hn':20*x.sz+70<=n'){w:List Str}(hw:w.length+(8*x.sz-2)<=400000000000){A B:Type}{Q:A->B->Prop}{f:List Str->Option A}{g:List Str->Option B}(hok:∀u:List Str,u.length<=8*x.sz-2->bkn x<=wt u->S2 Q (f (w++u)) (g (w++u))):S2 Q ((P6 n x w).bind f) ((a1B n' w x).bind fun r=>cond (decide (x.n=0)) ((app 16 r [[59]]).bind g) (g r)):=by
 have:=fun_w hG hs hb hn hn' w hw A B Q f g hok;simp only[NF,CD]at this;exact this
theorem fun_1 (hG:G V0 11 x)(hs:x.sz<=20000)(hb:bkn x<=30000)(hn:20*x.sz+70<=n)(hn':20*x.sz+70<=n'):SW (8*x.sz-2) (bkn x) (fun w=>P6 n x w) (fun w=>a1B n' w x):=fun w hw A B Q f g hok=>by
 have:=fun_h (.inl hG) hs hb hn hn' hw hok;rw[show decide (x.n=0)=false from by cases hG;rfl]at this;exact this
theorem mems_w (hx:x.l=p++l)(hp:∀y∈p,y.op=8∨y.op=12)(hs:szN (p++l)<=20000)(hS:∀(m i:Nat) (y:Nod) (c b:Nat) (R:List Str->Option (List Str)),y∈l->ltB (i:Int) (l.length:Int)=true->idx' l (i:Int)=some y->w64 ((i:Int)+1) =((i+1:Nat):Int)->SW c b (L m ((i+1:Nat):Int)) R->SW (8*y.sz+c) (bkn y+b) (L (m+1) i) (fun w=>(a2n n' w y).bind R))(hE:∀(m:Nat),ltB (l.length:Int) (l.length:Int)=false->L (m+1) l.length=some)(hn:l.length<n)(hn':szN (p++l)+1<n'):SW (8*szN l) (bkN l) (L n 0) (fun w=>K3 n' x n' w 0):=by
 have hL:=I8 (p++l);have hl:(p++l).length=p.length+l.length:=List.length_append ..;have lp1:=lpw (l:=l) 0 (c:=fun r=>8*szN r) (b:=bkN) (L:=L) (R:=fun m i w=>K3 n' x m w (i+(p.length:Int))) zOm (fun m m' i y r hx' hi hi0 h1 h2 h3 hz ih=>by
  obtain⟨s1,s2,s3⟩:=sh (p:=p) hi zOm h2;have e:(fun w=>K3 n' x (m'+1) w ((i:Int)+(p.length:Int)))=fun w=>(a2n n' w y).bind fun w=>K3 n' x m' w (((i+1:Nat):Int)+(p.length:Int)):=by
   funext w;rw[K3.eq_2,hx,s1,s2,s3];rfl
  rw[e,b1G,Nat.mul_add];exact hS m i y _ _ _ hx' h1 h2 h3 ih) (fun m m' h1=>by
  rw[hE m h1];simp only[K3.eq_2,hx,a2e (show ¬((l.length:Int)+(p.length:Int)<(((p++l).length:Nat):Int))by omega)];exact pt) n (n'-p.length) 0 zOm zOm (Nat.zero_le _) (Nat.zero_le _)
 have e:(fun w=>K3 n' x n' w 0)=fun w=>K3 n' x (n'-p.length) w p.length:=by
  funext w;have:=skp (n:=n') hx hp zOm p.length 0 (n'-p.length) w zOm;rwa [show n'-p.length+p.length=n' from zOm]at this
 simp only[zD,Int.zero_add]at lp1;rw[e];exact lp1
theorem rec_w {gs ms:List Nod}(hx:x.l=gs++ms)(hg:∀y∈gs,G V0 8 y)(hm:∀y∈ms,G V0 13 y∨G V0 14 y∨G V0 15 y)(hs:szN (gs++ms)<=19000)(hb:bkN (gs++ms)<=30000)(hn:20*szN (gs++ms)+80<=n)(hn':20*szN (gs++ms)+80<=n'):a0C n x [13,14,15]=some ms/\a0C n x [8]=some gs/\a2W n' x [8]=some gs/\SW (8*szN ms) (bkN ms) (fun w=>O1 n n ms (ms.length:Int) 0 w) (fun w=>K3 n' x n' w 0):=by
 have hL:=I8 (gs++ms);have hop:∀y∈ms,y.op=13∨y.op=14∨y.op=15:=fun y hy=>by
  rcases hm y hy with h|h|h
  ·exact .inl (opc.2.2.2.2.2.1 h)
  ·exact .inr (.inr (opc.2.2.2.2.2.2.2.1 h))
  exact .inr (.inl (opc.2.2.2.2.2.2.1 h))
 have h8:=b0L hg opc.1;have e:=@ofs n x 8 (by rw[hx];omega) (by rw[hx];omega);have e':=@ofs n' x 8 (by rw[hx];omega) (by rw[hx];omega);have f1:ms.flatMap (ofF [8])=[]:=List.flatMap_eq_nil_iff.2 fun y hy=>by rcases hop y hy with h|h|h<;>simp[ofF,eqB,h]
 have f2:ms.filter (fun y=>eqB y.op 8)=[]:=List.filter_eq_nil_iff.2 fun y hy=>by rcases hop y hy with h|h|h<;>simp[eqB,h]
 refine⟨of_2 hx zSi (by rw[hx];omega) (by rw[hx];omega) (fun y hy=>by simp[ofF,eqB,h8 y hy]) (fun y hy=>by rcases hop y hy with h|h|h<;>simp[ofF,eqB,h]),?_,?_,?_⟩
 ·rw[e.1,hx,List.flatMap_append,f1,(flo (q:=8) h8).1];simp
 ·rw[e'.2,hx,List.filter_append,f2,(flo (q:=8) h8).2];simp
 refine mems_w (L:=fun m i w=>O1 n m ms (ms.length:Int) i w) hx (fun y hy=>.inl (h8 y hy)) zOm (fun m i y c b R hy h1 h2 h3 ih=>?_) (fun m h1=>by funext w;simp only[O1.eq_2,h1,NF]) (by rw[List.length_append]at hL;omega) zOm;have s1:=a0L hy;have s2:=a6t hy;simp only[WN]at hs hb hn hn';have pr1:=mem_w (hm y hy) zOm zOm (n:=n) (n':=n') zOm zOm;have hy1:=y.H8;simp only[O1.eq_2,h1,h2,h3];exact pt
theorem bod_w (hx:x.l=p++l)(hp:∀y∈p,y.op=8∨y.op=12)(hm:∀y∈l,(G V0 16 y∨G V0 17 y)∨(G V0 11 y∨G V0 12 y))(hs:szN (p++l)<=19000)(hb:bkN (p++l)<=30000)(hn:20*szN (p++l)+80<=n)(hn':20*szN (p++l)+80<=n')(hL1:∀(m i:Nat) (y:Nod) (w:List Str),ltB (i:Int) (l.length:Int)=true->idx' l (i:Int)=some y->w64 ((i:Int)+1) =((i+1:Nat):Int)->L (m+1) i w =(cond (decide (y.op=16)) ((o8 [[116,121,112,101],y.s] w).bind fun w=>(a0z n y w).bind fun w=>o8 [[59]] w) (cond (decide (y.op=17)) ((o8 [[116,121,112,101],y.s,[61]] w).bind fun w=>(J7 n y.t w).bind fun w=>o8 [[59]] w) (P6 n y w))).bind (L m ((i+1:Nat):Int)))(hE:∀(m:Nat),ltB (l.length:Int) (l.length:Int)=false->L (m+1) l.length=some):SW (8*szN l) (bkN l) (L n 0) (fun w=>K3 n' x n' w 0):=by
 have hL:=I8 (p++l);refine mems_w (L:=L) hx hp zOm (fun m i y c b R hy h1 h2 h3 ih=>?_) hE (by rw[List.length_append]at hL;omega) zOm;have s1:=a0L hy;have s2:=a6t hy;have pr2:=fun{t b n n'}=>@b3B t b n n';have hy1:=y.H8;simp only[WN]at hs hb hn hn';have e:L (m+1) i=fun w=>L (m+1) i w:=rfl;rw[e];simp only[hL1 m i y _ h1 h2 h3];unfold a2n;rcases hm y hy with(h|h)|h
 ·cases h with
  | assoc h4 h5 =>
   have pr1:=fun{x:Nod} {n n':Nat} (h:∀y∈x.l,G V0 7 y) (h2:szN x.l<=20000)=>bnd_w (n:=n) (n':=n') h h2;simp only[WN]at s1 s2 hy1;exact pt
 ·cases h with
  | alias h4 h5 =>
   simp only[WN]at s1 s2 hy1;exact pt
 have ho:y.op=7:=h.elim opc.2.2.2.2.2.2.2.2.2.2.1 opc.2.2.2.2.2.2.2.2.2.2.2;have pr1:=fun{w}=>@fun_h y h zOm zOm n n' zOm zOm w;have fin:=ho;exact pt
theorem gen0 {w:List Str}(h:a2W (n+1) x [8]=some []):a2L (n+1) w x=some w:=by
 unfold a2L;rw[h];simp only[NF,a0D.eq_2,LN]
theorem dec_w (hG:G V0 18 x)(hs:x.sz<=19000)(hb:bkn x<=30000)(hn:20*x.sz+90<=n)(hn':20*x.sz+90<=n'):SW (8*x.sz) (bkn x) (fun w=>O0 n x w) (fun w=>(a2g n' w x).bind fun r=>some r.1):=by
 have pr2:=fun{t b n n'}=>@b3B t b n n';unfold O0 a2g;have hrec:∀(o k:Int) (s:Str) (gs ms:List Nod) (a:Int),(o=2/\(k=0∨k=1∨k=2∨k=3)∨o=3/\(k=0∨k=2)∨o=4/\k=0) ->(∀y∈gs,G V0 8 y) ->(∀y∈ms,G V0 13 y∨G V0 14 y∨G V0 15 y)->x =⟨o,s,k,zT,[],gs++ms,a⟩->SW (8*x.sz) (bkn x) (fun w=>O0 n x w) (fun w=>(a2g n' w x).bind fun r=>some r.1):=by
  intro o k s gs ms a ho h1 h2 e;subst e;have hz:=a8V gs ms;have hz':=b5h gs ms;obtain⟨o1,o2,o3,lp1⟩:=rec_w (x:=⟨o,s,k,zT,[],gs++ms,a⟩) (n:=n) (n':=n') rfl h1 h2 (by simp only[nsz]at hs;omega) (by simp only[WN]at hb;omega) (by simp only[nsz]at hn;omega) (by simp only[nsz]at hn';omega);simp only[WN]at hs hb hn hn';have pr1:=gen_w o2 o3 h1 zOm zOm zOm;unfold O0 a2g;simp only[o1];rcases ho with⟨rfl,rfl|rfl|rfl|rfl⟩ |⟨rfl,rfl|rfl⟩ |⟨rfl,rfl⟩<;>simp only[FL,MG3]<;>exact pt
 cases hG with
 | strc h1 h2 e h3 h4 h5 h6=>exact hrec 2 _ _ _ _ _ (.inl ⟨rfl,h2⟩) h3 (fun y hy=>(List.mem_append.1 hy).elim (fun h=>.inl (h4 y h)) fun h=>.inr (.inl (h5 y h))) (by rw[e])
 | clss h1 e h3 h4 h5 h6=>exact hrec 4 0 _ _ _ _ (.inr (.inr ⟨rfl,rfl⟩)) h3 (fun y hy=>(List.mem_append.1 hy).elim (fun h=>.inl (h4 y h)) fun h=>.inr (.inl (h5 y h))) (by rw[e])
 | enum h1 h2 h3 h4=>exact hrec 3 _ _ _ _ _ (.inr (.inl ⟨rfl,h2⟩)) h3 (fun y hy=>.inr (.inr (h4 y hy))) rfl
 | @prot s us ss a h1 h2 h3 =>
  have hop:∀y∈us++ss,y.op=16∨y.op=7:=fun y hy=>(List.mem_append.1 hy).elim (fun h=>.inl (opc.2.2.2.2.2.2.2.2.1 (h2 y h))) fun h=>.inr (opc.2.2.2.2.2.2.2.2.2.2.2 (h3 y h));obtain⟨p,rfl⟩:∃p,n'=p+1:=⟨n'-1,zOm⟩
  have hL:=I8 (us++ss);have hz:=a8V us ss;have hz':=b5h us ss;have lp1:=bod_w (x:=⟨5,s,0,zT,[],us++ss,a⟩) (l:=us++ss) (p:=[]) (n:=n) (n':=p+1) rfl (fun y hy=>by cases hy) (fun y hy=>(List.mem_append.1 hy).elim (fun h=>.inl (.inl (h2 y h))) fun h=>.inr (.inr (h3 y h))) (by simp only[nsz]at hs;simp only[List.nil_append];omega) (by simp only[WN]at hb;simp only[List.nil_append];omega) (by simp only[nsz]at hn;simp only[List.nil_append];omega) (by simp only[nsz]at hn';simp only[List.nil_append];omega) (L:=fun m i w=>P8 n ⟨5,s,0,zT,[],us++ss,a⟩ m i w) (fun m i y w c1 c2 c3=>by
   have h16:decide (y.op=17)=false:=decide_eq_false (by
    rcases Nat.lt_or_ge i (us++ss).length with h|h
    ·rw[a1h h]at c2;cases c2;rcases hop _ (List.getElem_mem _)with h|h<;>rw[h]<;>decide
    rw[a2e zOm]at c1;cases c1)
   simp only[P8.eq_2,c1,c2,c3,NF,a5M,h16];cases decide (y.op=16)<;>simp only[NF]) (fun m c1=>by funext w;simp only[P8.eq_2,c1,NF])
  have o1:a2W (p+1) ⟨5,s,0,zT,[],us++ss,a⟩ [8]=some []:=by
   rw[(ofs (n:=p+1) (o:=8) (by show(us++ss).length+12<=_;simp only[nsz]at hn';omega) (by show(us++ss).length<=_;simp only[nsz]at hs;omega)).2];exact congrArg some (List.filter_eq_nil_iff.2 fun y hy=>by rcases hop y hy with h|h<;>simp[eqB,h])
  have fin:=fun w=>gen0 (w:=w) o1;simp only[WN]at hs hb hn hn';simp only[FL];exact pt
 | @ext s t rs us fs a h1 h2 h3 h4 h5 =>
  have hop:∀y∈us++fs,y.op=17∨y.op=7:=fun y hy=>(List.mem_append.1 hy).elim (fun h=>.inl (opc.2.2.2.2.2.2.2.2.2.1 (h4 y h))) fun h=>.inr (opc.2.2.2.2.2.2.2.2.2.2.1 (h5 y h));have h12:=b0L h3 opc.2.2.2.1;obtain⟨p,rfl⟩:∃p,n'=p+1:=⟨n'-1,zOm⟩
  have hL:=I8 (rs ++(us++fs));have hL2:(rs ++(us++fs)).length=rs.length+(us++fs).length:=List.length_append ..;have hz:=a8V rs (us++fs);have hz':=b5h rs (us++fs);simp only[nsz]at hs hn hn';have hbb:bkN (rs ++(us++fs))<=30000:=by simp only[WN]at hb ⊢;omega
  have lp1:=bod_w (x:=⟨6,s,0,t,[],rs ++(us++fs),a⟩) (l:=us++fs) (p:=rs) (n:=n) (n':=p+1) rfl (fun y hy=>.inr (h12 y hy)) (fun y hy=>(List.mem_append.1 hy).elim (fun h=>.inl (.inr (h4 y h))) fun h=>.inr (.inl (h5 y h))) zOm hbb zOm zOm (L:=fun m i w=>P9 n (us++fs) m i w) (fun m i y w c1 c2 c3=>by
   have h16:decide (y.op=16)=false:=decide_eq_false (by
    rcases Nat.lt_or_ge i (us++fs).length with h|h
    ·rw[a1h h]at c2;cases c2;rcases hop _ (List.getElem_mem _)with h|h<;>rw[h]<;>decide
    rw[a2e zOm]at c1;cases c1)
   simp only[P9.eq_2,c1,c2,c3,NF,a5M,h16];cases decide (y.op=17)<;>simp only[NF]) (fun m c1=>by funext w;simp only[P9.eq_2,c1,NF])
  have e:=@ofs n ⟨6,s,0,t,[],rs ++(us++fs),a⟩ 12 (by show(rs ++(us++fs)).length+12<=_;omega) (by show(rs ++(us++fs)).length<=_;omega);have e':=fun o=>@ofs (p+1) ⟨6,s,0,t,[],rs ++(us++fs),a⟩ o (by show(rs ++(us++fs)).length+12<=_;omega) (by show(rs ++(us++fs)).length<=_;omega);have o1:a2W (p+1) ⟨6,s,0,t,[],rs ++(us++fs),a⟩ [8]=some []:=by
   rw[(e' 8).2];exact congrArg some (List.filter_eq_nil_iff.2 fun y hy=>(List.mem_append.1 hy).elim (fun h=>by simp[eqB,h12 y h]) fun h=>by rcases hop y h with h|h<;>simp[eqB,h])
  have f1:(us++fs).flatMap (ofF [12])=[]:=List.flatMap_eq_nil_iff.2 fun y hy=>by rcases hop y hy with h|h<;>simp[ofF,eqB,h]
  have f2:(us++fs).filter (fun y=>eqB y.op 12)=[]:=List.filter_eq_nil_iff.2 fun y hy=>by rcases hop y hy with h|h<;>simp[eqB,h]
  have o2:a0C n ⟨6,s,0,t,[],rs ++(us++fs),a⟩ [12]=some rs:=by
   rw[e.1];show some ((rs ++(us++fs)).flatMap _)=_;rw[List.flatMap_append,f1,(flo (q:=12) h12).1];simp
  have o3:a2W (p+1) ⟨6,s,0,t,[],rs ++(us++fs),a⟩ [12]=some rs:=by
   rw[(e' 12).2];show some ((rs ++(us++fs)).filter _)=_;rw[List.filter_append,f2,(flo (q:=12) h12).2];simp
  have o4:a0C n ⟨6,s,0,t,[],rs ++(us++fs),a⟩ [17,7]=some (us++fs):=of_2 rfl zSi (by show(rs ++(us++fs)).length+12<=_;omega) (by show(rs ++(us++fs)).length<=_;omega) (fun y hy=>by simp[ofF,eqB,h12 y hy]) (fun y hy=>by rcases hop y hy with h|h<;>simp[ofF,eqB,h]);have pr1:=whr_w o2 o3 h3 zOm zOm zOm;have fin:=And.intro (fun w=>gen0 (w:=w) o1) o4;simp only[WN]at hb;simp only[FL];exact pt
 | «fun» h1 =>
  have pr1:=fun_1 h1 zOm hb (n:=n) (n':=n') zOm zOm;have ho:=opc.2.2.2.2.2.2.2.2.2.2.1 h1;have hk:x.n=1:=by cases h1;rfl
  have fin:=And.intro ho hk;simp only[hk,FL];exact pt
variable {i:Int} {l:List Nod} {x:Nod}
@[reducible] def TW (c:Nat) (p:List Str->Option (List Str)):Prop:=∀(w:List Str),wt w+c<=100000000000 -> ∀(A B:Type) (Q:A->B->Prop) (f:List Str->Option A) (R:Option B),(∀u:List Str,wt u<=c->S2 Q (f (w++u)) R)->S2 Q ((p w).bind f) R
theorem b48:∀l:List Str,l.length<=wt l
 | []=>Nat.le_refl _
 | x::r=>by have:=b48 r;simp only[wt,List.length_cons];omega
mutual
def Nod.rn:Nod->Prop
 |⟨_,_,n,_,_,l,_⟩=>(-9223372036854775808<=n/\n<=9223372036854775807)/\rnN l
def rnN:List Nod->Prop
 | []=>True
 | x::r=>x.rn/\rnN r
end
theorem b7M {x:Nod}:∀{l:List Nod},rnN l->x∈l->x.rn
 | y::r,hf,h=>by
  rcases List.mem_cons.1 h with rfl|h
  ·exact hf.1
  exact b7M hf.2 h
theorem b6K (x:Nod):x.rn↔(-9223372036854775808<=x.n/\x.n<=9223372036854775807)/\rnN x.l:=by cases x;exact .rfl
theorem a6V (x:Nod):bkn x=x.s.length+bkt x.t+bkT x.ts+bkN x.l:=by cases x;rfl
theorem bkt_le (t:Typ):t.name.length+bkT t.args<=bkt t:=by
 obtain⟨k,s,n,a⟩:=t;rw[bkt];show s.length+bkT a<=_;omega
theorem b3H {x:Typ}:∀{l:List Typ},x∈l->bkt x<=bkT l
 | y::r,h=>by
  rcases List.mem_cons.1 h with rfl|h
  ·exact Nat.le_add_right _ _
  exact Nat.le_trans (b3H h) (Nat.le_add_left _ _)
@[reducible] def AR (l:List Nod) (y:Nod):Prop:=y.sz<=szN l/\y.sz=1+y.t.sz+szT y.ts+szN y.l/\1<=y.t.sz/\bkn y<=bkN l/\bkn y=y.s.length+bkt y.t+bkT y.ts+bkN y.l
@[reducible] def RN (n:Int):Prop:=-9223372036854775808<=n/\n<=9223372036854775807
theorem nd {y:Nod}(h:y∈l)(hr:rnN l):AR l y/\y.rn/\rnN y.l/\RN y.n:=by
 have h1:=b7M hr h;have h2:=y.t.H8;exact⟨⟨a0L h,y.H8,zOm,a6t h,a6V y⟩,h1,((b6K y).1 h1).2,((b6K y).1 h1).1⟩
section
variable {A B:Type} {Q:A->B->Prop} {R:Option B} {w m:List Str} {s:Str}
theorem o_put {f:List Str->Option A}(h:wt w+wt m<=100000000000)(g:S2 Q (f (w++m)) R):S2 Q ((o8 m w).bind f) R:=t_put (by have:=b48 w;have:=b48 m;omega) g
theorem o_ap {f:List Str->Option A}(h:wt w+wt m<=100000000000)(g:S2 Q (f (w++m)) R):S2 Q ((app 16 w m).bind f) R:=t_ap (by have:=b48 w;have:=b48 m;omega) g
theorem o_itoa {n:Int}{f:Str->Option A}(h:-9223372036854775808<=n/\n<=9223372036854775807)(g:∀z:Str,1<=z.length->z.length<=30->S2 Q (f z) R):S2 Q ((b5q n).bind f) R:=by
 rw[itoas h];exact g _ (b8w (c2m h)).1 (b8w (c2m h)).2
theorem o_sub {z:Str}{f:Str->Option A}(h:1<=z.length)(g:(z.drop 1).length<=z.length->S2 Q (f (z.drop 1)) R):S2 Q ((b9A z 1 (z.length:Int)).bind f) R:=by
 have h1:inI 1 (z.length:Int) z.length=true:=by simp[inI];omega
 have e:b9A z 1 (z.length:Int)=some (z.drop 1):=by simp[b9A,h1]
 rw[e];exact g zSi
theorem o_idx {α:Type}{l:List α}{f:α->Option A}(hc:ltB i (l.length:Int)=true)(hi:0<=i)(g:∀y∈l,S2 Q (f y) R):S2 Q ((idx' l i).bind f) R:=by
 have h:i<(l.length:Int):=by unfold ltB at hc;exact of_decide_eq_true hc
 obtain⟨k,rfl⟩:∃k:Nat,i=k:=⟨i.toNat,zOm⟩
 rw[a1h (show k<l.length by omega)];exact g _ (List.getElem_mem _)
theorem o_idN {f:Nod->Option A}(hc:ltB i (l.length:Int)=true)(hr:rnN l)(hi:0<=i)(g:∀y,AR l y->y.rn->rnN y.l->RN y.n->S2 Q (f y) R):S2 Q ((idx' l i).bind f) R:=o_idx hc hi fun y hy=>by
 obtain⟨h1,h2,h3,h4⟩:=nd hy hr;exact g y h1 h2 h3 h4
theorem o_kid {f:Nod->Option A}(hr:rnN x.l)(hi:0<=i)(g:∀y,AR x.l y->y.rn->rnN y.l->RN y.n->S2 Q (f y) R)(h:S2 Q (f ⟨0,[],0,zT,[],[],0⟩) R):S2 Q ((O8 x i).bind f) R:=by
 unfold O8;cases hc:ltB i (x.l.length:Int)
 ·exact h
 simp only[NF];exact o_idN hc hr hi g
theorem c4w {r:List Nod}(h:∀y∈r,y∈l)(hr:rnN l):rnN r:=by
 induction r with
 | nil=>trivial
 | cons y r ih=>exact⟨b7M hr (h y List.mem_cons_self),ih fun z hz=>h z (List.mem_cons_of_mem _ hz)⟩
theorem b5l (p:Nod->Bool):∀l:List Nod,szN (l.filter p)<=szN l/\bkN (l.filter p)<=bkN l
 | []=>⟨Nat.le_refl _,Nat.le_refl _⟩
 | x::r=>by
  have:=b5l p r;rw[List.filter_cons];split<;>simp only[WN]<;>omega
theorem fl1 (o:Int):∀l:List Nod,l.flatMap (ofF [o])=l.filter fun y=>eqB y.op o
 | []=>rfl
 | x::r=>by
  rw[List.flatMap_cons,List.filter_cons,fl1 o r];cases h:eqB x.op o<;>simp[ofF,h]
theorem o_of {n:Nat}{o:Int}{f:List Nod->Option A}(hr:rnN x.l)(hn:szN x.l+12<=n)(hL:szN x.l<=100000)(g:∀r:List Nod,szN r<=szN x.l->bkN r<=bkN x.l->rnN r->S2 Q (f r) R):S2 Q ((a0C n x [o]).bind f) R/\S2 Q ((a2W n x [o]).bind f) R:=by
 have hl:=I8 x.l;obtain⟨e1,e2⟩:=@ofs n x o zOm zOm;rw[e1,e2,fl1];have:=b5l (fun y=>eqB y.op o) x.l;have h:=g _ this.1 this.2 (c4w (fun y hy=>(List.mem_filter.1 hy).1) hr);exact⟨h,h⟩
end
theorem onil {A B:Type}{Q:A->B->Prop}{c:Nat}{w:List Str}{f:List Str->Option A}{R:Option B}(hok:∀u:List Str,wt u<=c->S2 Q (f (w++u)) R):S2 Q (f w) R:=by
 have:=hok [] (Nat.zero_le _);rwa [List.append_nil]at this
theorem po {P:Prop}(x:P:=by
 first|intro w hw A B Q f R hok|skip
 repeat' first
 | with_reducible first|assumption|exact List.mem_append_right _ List.mem_cons_self|exact .inl zAs|exact .inr zAs|intro _
 |(simp (disch:=omega) only[NF,CD,PF,fin,a5M,Int.reduceEq,Int.reduceLT,decide_true,decide_false,S9,List.append_assoc,List.cons_append,List.nil_append])
 |(simp (disch:=omega) only[NF,CD,PF,a5M,Int.reduceEq,Int.reduceLT,decide_true,decide_false,S9,List.append_assoc,List.cons_append,List.nil_append])
 | with_reducible first
  | apply hok|apply ih|apply pz1|apply pz2|apply pz3|apply pr1|apply pr2|apply pr3|apply pr4|apply pr5|apply lp1|apply lp2|apply lp3
  | apply o_put|apply o_ap|apply t_esc|apply t_cat|apply o_itoa|apply o_sub|refine o_idN zAs ?_ ?_ ?_|apply o_kid|refine(o_of ?_ ?_ ?_ ?_).1|refine(o_of ?_ ?_ ?_ ?_).2
  | refine t_T zAs ?_|refine t_F zAs ?_|apply t_if|refine onil hok
 | omega
 |(simp only[WN,List.length_append,List.length_cons,List.length_nil];omega)
 |(simp only[WN,List.length_append,List.length_cons,List.length_nil]at *;omega)):P:=x
theorem lpt {α:Type}{l:List α}{c:List α->Nat}{L:Nat->Int->List Str->Option (List Str)}(hl:l.length<=1000000000)(hs:∀(m i:Nat) (x:α) (r:List α),x∈l->i<l.length->ltB (i:Int) (l.length:Int)=true->idx' l (i:Int)=some x->w64 ((i:Int)+1) =((i+1:Nat):Int)->TW (c r) (L m ((i+1:Nat):Int))->TW (c (x::r)) (L (m+1) i))(he:∀m:Nat,ltB (l.length:Int) (l.length:Int)=false->TW (c []) (L (m+1) l.length)):∀(m i:Nat),l.length<m+i->i<=l.length->TW (c (l.drop i)) (L m i)
 | 0,_,_,_=>zOm
 | m+1,i,h1,h3=>by
  rcases Nat.lt_or_ge i l.length with h|h
  ·rw[drop_eq h];exact hs m i l[i] _ (List.getElem_mem h) h (a04 zOm) (a1h h) (S9 zOm) (lpt hl hs he m (i+1) zOm zOm)
  have:i=l.length:=by omega
  subst this;rw[List.drop_length];exact he m (a2e zOm)
theorem tp_t:∀(k:Nat) (t:Typ) (n:Nat),t.sz<=k->t.sz<=100000->bkt t<=30000->10*t.sz+10<=n->TW (100000*t.sz-100) (fun w=>(w9.fs n).J7 t w)
 | 0,t,n,h,_,_,_=>by have:=t.H8;omega
 | k+1,⟨kd,s,nn,a⟩,n,h,hs,hb,hn=>by
  have hb1:=bkt_le ⟨kd,s,nn,a⟩;simp only at hb1;rw[tsz]at h hs hn ⊢;have hL:=a6b a;obtain⟨q,rfl⟩:∃q,n=q+4:=⟨n-4,zOm⟩
  have pr0:=fun{x:Typ} (n:Nat) (hx:x∈a) (hn:10*szT a+10<=n)=>tp_t k x n (by have:=a2I hx;omega) (by have:=a2I hx;omega) (by have:=b3H hx;omega) (by have:=a2I hx;omega);have lp:∀(m:Nat) (l:List Typ),(∀x∈l,x∈a)->szT l<=szT a->10*szT a+10<=m->TW (100000*szT l) (fun w=>J2 m (w9.fs m) l m 0 w):=fun m l hl hz hm=>by
   have hL2:=a6b l;have pr1:=fun{x:Typ} (hx:x∈l)=>pr0 (x:=x) m (hl x hx) hm;have lp1:=lpt (l:=l) (c:=fun r=>100000*szT r) (L:=fun j i w=>J2 m (w9.fs m) l j i w) zOm (fun j i x r hx hi h1 h2 h3 ih=>by
    have hx1:=x.H8;simp only[J2.eq_2,h1,h2,h3];exact po) (fun j h1=>by
    simp only[J2.eq_2,h1];exact po) m 0 zOm (Nat.zero_le _)
   simp only[zD]at lp1;exact lp1
  have e1:(w9.fs (q+3)).a0G=a1V (q+2) (w9.fs (q+2)):=rfl;have e2:(w9.fs (q+3)).Q7=V8 (q+2) (w9.fs (q+2)):=rfl;have e3:(w9.fs (q+2)).Q7=V8 (q+1) (w9.fs (q+1)):=rfl;show TW _ (fun w=>a2v (q+3) (w9.fs (q+3)) ⟨kd,s,nn,a⟩ w);unfold a2v;simp only[e1,e2];unfold a1V;simp only[e3];unfold V8;have lp1:=lp (q+1) a (fun _ h=>h) (Nat.le_refl _) zOm;have lp2:=lp (q+2) a (fun _ h=>h) (Nat.le_refl _) zOm;rcases List.eq_nil_or_concat a with rfl |⟨c,d,rfl⟩
  ·have fin:=And.intro (show a9p ([]:List Typ) 0 (max (w64 (0-1)) 0)=some []/\a9p ([]:List Typ) (max (w64 (0-1)) 0) 0=some []from v_subN) LN;exact po
  simp only[List.concat_eq_append]at *;have hc:=b0j c [d];have hcl:=a6b c;have lp3:=lp (q+2) c (fun _ h=>List.mem_append_left _ h) (by simp only[WN];omega) (by simp only[WN]at hn ⊢;omega);have pz1:=pr0 (x:=d) (q+2) (List.mem_append_right _ List.mem_cons_self) zOm;have fin:=And.intro (lastS (a:=c) (r:=d) zOm) (@ly1 (q+2) q (w9.fs (q+2)));exact po
theorem tr_t:∀(k:Nat) (t:Typ) (n:Nat),t.sz<=k->t.sz<=100000->bkt t<=30000->10*t.sz+10<=n->TW (100000*t.sz-100) (fun w=>(J4.fs n).Q0 w t)
 | 0,t,n,h,_,_,_=>by have:=t.H8;omega
 | k+1,⟨kd,s,nn,a⟩,n,h,hs,hb,hn=>by
  have hb1:=bkt_le ⟨kd,s,nn,a⟩;simp only at hb1;rw[tsz]at h hs hn ⊢;have hL:=a6b a;obtain⟨q,rfl⟩:∃q,n=q+2:=⟨n-2,zOm⟩
  have pr1:=fun{x:Typ} (hx:x∈a)=>tr_t k x (q+1) (by have:=a2I hx;omega) (by have:=a2I hx;omega) (by have:=b3H hx;omega) (by have:=a2I hx;omega);show TW _ (fun w=>a6f (q+1) (J4.fs (q+1)) w ⟨kd,s,nn,a⟩);unfold a6f;have lp1:=lpt (l:=a) (c:=fun r=>100000*szT r) (L:=fun m i w=>a3o (q+1) (J4.fs (q+1)) ⟨kd,s,nn,a⟩ m w i) zOm (fun m i x r hx hi h1 h2 h3 ih=>by
   have hx1:=x.H8;simp only[a3o.eq_2,h1,h2,h3];exact po) (fun m h1=>by
   simp only[a3o.eq_2,h1];exact po) (q+1) 0 zOm (Nat.zero_le _)
  simp only[zD]at lp1;have lp2:=lpt (l:=a) (c:=fun r=>100000*szT r) (L:=fun m i w=>a2o (q+1) (J4.fs (q+1)) ⟨kd,s,nn,a⟩ m w i) zOm (fun m i x r hx hi h1 h2 h3 ih=>by
   have hx1:=x.H8;simp only[a2o.eq_2,h1,h2,h3];exact po) (fun m h1=>by
   simp only[a2o.eq_2,h1];exact po) (q+1) 0 zOm (Nat.zero_le _)
  simp only[zD]at lp2;rcases List.eq_nil_or_concat a with rfl |⟨c,d,rfl⟩
  ·have fin:=And.intro (fun t m w=>a1J.eq_2 (q+1) (J4.fs (q+1)) t w 0 m) LN;exact po
  simp only[List.concat_eq_append]at *;have hc:=b0j c [d];have hcl:=a6b c;have pr2:=pr1 (x:=d) (List.mem_append_right _ List.mem_cons_self);have lp3:=lpt (l:=c) (c:=fun r=>100000*szT r) (L:=fun m i w=>a1J (q+1) (J4.fs (q+1)) ⟨kd,s,nn,c++[d]⟩ m w i) zOm (fun m i x r hx hi h1 h2 h3 ih=>by
   have hx1:=x.H8;have h4:ltB ((i+1:Nat):Int) ((c++[d]).length:Int)=true:=a04 (by simp;omega);have h5:=b7C (y:=d) hi h2;have hx:=List.mem_append_left [d] hx;simp only[a1J.eq_2,h1,h2,h3,h4,h5];exact po) (fun m h1=>by
   have h3:=S9 (k:=c.length) zOm;have h4:ltB ((c.length+1:Nat):Int) ((c++[d]).length:Int)=false:=a2e zSi;simp only[a1J.eq_2,h1,h3,h4];exact po) (q+1) 0 zOm (Nat.zero_le _)
  simp only[zD]at lp3;have fin:=lastS (a:=c) (r:=d) zOm;exact po
end Go.Proofs.YtimgnjbjbdgmaaaGreatDoor
