/- Texts of ParsePrints, joined. -/
import Derived.Test.YtmippldlhnajkaaGreatDoorParsePrintsJ27
set_option maxRecDepth 100000
set_option maxHeartbeats 20000000
set_option linter.unusedSimpArgs false
set_option linter.unusedVariables false
set_option linter.unusedSectionVars false
namespace Go.Proofs.YtmippldlhnajkaaGreatDoor
open Go Go.Vm Pr
theorem a9V (p:Nod->Bool):∀l:List Nod,szN (l.filter p)<=szN l
 | []=>Nat.le_refl _
 | x::r=>by
  have:=a9V p r;rw[List.filter_cons];cases p x<;>simp only[szN,if_true,if_false,Bool.false_eq_true]<;>omega
section
variable {x:Nod} (hb:x.bd) (hs:x.sz<=1000000) {n:Nat} (hn:40*x.sz+60<=n) (w:List Str) (hw:wt w+100000*x.sz<=2000000000000)
include hb hs hn hw
theorem c7T:S1 (T1 0 (100000*szN x.l+2) w) (a03 n w x):=by
 obtain⟨b1,b2,b3,b4,b5⟩:=x.a4w.1 hb;have hz:=x.S9;have hl:=G5 x.l;have hf:=a9V (fun y=>eqB y.op 8) x.l;have hfl:=List.length_filter_le (fun y=>eqB y.op 8) x.l;have ih1:=lpo (l:=x.l.filter fun y=>eqB y.op 8) (c:=Nod.sz) (s:=szN) Q8 K6 (by omega) (L:=fun m i w=>R9 n (x.l.filter fun y=>eqB y.op 8) m w i) (fun m i k y w hy hi c1 c2 c3 ih1 hw=>by
  have hsy:=I5 hy;have hzy:=y.S9;have hm:=(List.mem_filter.1 hy).1;have hq:=I5 hm;obtain⟨y1,y2,y3,y4,y5⟩:=y.a4w.1 (Y4 b5 hm);have ih2:=b7h (n:=n) (Y4 b5 hm) (by omega) (by omega);rw[R9.eq_2];exact tot) (fun m w c1 c2 c3=>by
  rw[R9.eq_2];exact tot) (n:=n) (by omega)
 unfold a03;rw[(ofs (o:=8) (n:=n) (x:=x) (by omega) (by omega)).2];exact tot
theorem c8B:S1 (T1 0 (100000*szN x.l) w) (a2E n w x):=by
 obtain⟨b1,b2,b3,b4,b5⟩:=x.a4w.1 hb;have hz:=x.S9;have hl:=G5 x.l;have hf:=a9V (fun y=>eqB y.op 12) x.l;have hfl:=List.length_filter_le (fun y=>eqB y.op 12) x.l;have ih1:=lpo (l:=x.l.filter fun y=>eqB y.op 12) (c:=Nod.sz) (s:=szN) Q8 K6 (by omega) (L:=fun m i w=>a0b n (x.l.filter fun y=>eqB y.op 12) m w i) (fun m i k y w hy hi c1 c2 c3 ih1 hw=>by
  have hsy:=I5 hy;have hzy:=y.S9;have hm:=(List.mem_filter.1 hy).1;have hq:=I5 hm;obtain⟨y1,y2,y3,y4,y5⟩:=y.a4w.1 (Y4 b5 hm);have ih2:=typd (n:=n) y3 (by omega) (by omega);rw[a0b.eq_2];rcases hts:y.ts with _ |⟨u,r⟩
  ·have fin:=And.intro hts (O8 (show ¬(0:Int)<((([]:List Typ).length:Nat):Int)by simp));exact tot
  ·rw[hts]at y4 hzy;simp only[a2b]at hzy;have ih3:=typd (n:=n) y4.1 (by omega) (by omega);have fin:=And.intro hts (O3 (l:=u::r) (i:=0) (by simp));simp only[List.getElem_cons_zero,Int.natCast_zero]at fin;exact tot) (fun m w c1 c2 c3=>by
  rw[a0b.eq_2];exact tot) (n:=n) (by omega)
 unfold a2E;rw[(ofs (o:=12) (n:=n) (x:=x) (by omega) (by omega)).2];exact tot
omit hw in
theorem c39 (hw:wt w+600000*x.sz<=2000000000000):S1 (T1 0 (600000*x.sz) w) (a1y n w x):=by
 have ih1:=fun w hw=>c7T hb hs hn w hw;have ih5:=fun w hw=>c8B hb hs hn w hw;have ih2:=b86 (n:=n) hb hs (by omega);obtain⟨b1,b2,b3,b4,b5⟩:=x.a4w.1 hb;have hz:=x.S9;have hl:=G5 x.l;have hAs:=hAB x.l;have hf:=a9V (fun y=>eqB y.op 11) x.l;have hfl:=List.length_filter_le (fun y=>eqB y.op 11) x.l;have hg:=a9V (fun y=>eqB y.op 20) x.l;have hgl:=List.length_filter_le (fun y=>eqB y.op 20) x.l;have ih4:=c8C (n:=n) b3 (by omega) (by omega);have ih3:=lpo (l:=x.l.filter fun y=>eqB y.op 11) (c:=Nod.sz) (s:=szN) Q8 K6 (by omega) (L:=fun m i w=>a0S n (x.l.filter fun y=>eqB y.op 11) m w i) (fun m i k y w hy hi c1 c2 c3 ih1 hw=>by
  have hsy:=I5 hy;have hzy:=y.S9;have hm:=(List.mem_filter.1 hy).1;have hq:=I5 hm;obtain⟨y1,y2,y3,y4,y5⟩:=y.a4w.1 (Y4 b5 hm);have ih2:=typd (n:=n) y3 (by omega) (by omega);rw[a0S.eq_2];exact tot) (fun m w c1 c2 c3=>by
  rw[a0S.eq_2];exact tot) (n:=n) (by omega)
 have ih6:=lpo (l:=x.l.filter fun y=>eqB y.op 20) (c:=Nod.sz) (s:=szN) Q8 K6 (by omega) (L:=fun m i w=>a0g n (x.l.filter fun y=>eqB y.op 20) m w i) (fun m i k y w hy hi c1 c2 c3 ih1 hw=>by
  have hsy:=I5 hy;have hzy:=y.S9;have hm:=(List.mem_filter.1 hy).1;have hq:=I5 hm;obtain⟨y1,y2,y3,y4,y5⟩:=y.a4w.1 (Y4 b5 hm);have ih2:=fun w=>(c1N y.sz y (Nat.le_refl _) (by omega) (Y4 b5 hm)).2.1 n w (by omega);rw[a0g.eq_2];exact tot) (fun m w c1 c2 c3=>by
  rw[a0g.eq_2];exact tot) (n:=n) (by omega)
 unfold a1y;rw[(ofs (o:=11) (n:=n) (x:=x) (by omega) (by omega)).2,(ofs (o:=20) (n:=n) (x:=x) (by omega) (by omega)).2];exact tot
end
section
variable {x:Nod} (hb:x.bd) (hs:x.sz<=1000000) {n:Nat} (hn:40*x.sz+60<=n) (w:List Str)
include hb hs hn
theorem memb_tot (hw:wt w+700000*x.sz<=2000000000000):S1 (T1 30000 (700000*x.sz) w) (a0h n w x):=by
 obtain⟨b1,b2,b3,b4,b5⟩:=x.a4w.1 hb;have hz:=x.S9;have hl:=G5 x.l;have ht:=a4t x.ts;have ih1:=typd (n:=n) b3 (by omega) (by omega);have ih2:=lpo (l:=x.l) (c:=Nod.sz) (s:=szN) Q8 K6 (by omega) (L:=fun m i w=>a0J n x m w i) (fun m i k y w hy hi c1 c2 c3 ih1 hw=>by
  have hsy:=I5 hy;have hzy:=y.S9;have ih2:=fun w=>(c1N y.sz y (Nat.le_refl _) (by omega) (Y4 b5 hy)).2.1 n w (by omega);rw[a0J.eq_2];exact tot) (fun m w c1 c2 c3=>by
  rw[a0J.eq_2];exact tot) (n:=n) (by omega)
 have ih3:=lpo (l:=x.ts) (c:=Typ.sz) (s:=szT) a5V a2b (by omega) (L:=fun m i w=>X5 n x m w i) (fun m i k y w hy hi c1 c2 c3 ih1 hw=>by
  have hsy:=a4f hy;have ih2:=typd (n:=n) (c1T b4 hy) (by omega) (by omega);rw[X5.eq_2];exact tot) (fun m w c1 c2 c3=>by
  rw[X5.eq_2];exact tot) (n:=n) (by omega)
 have ih4:=b7h (n:=n) hb hs (by omega);have ih5:=fun w hw=>c39 hb hs hn w hw;unfold a0h;exact tot
theorem decl_tot (hw:wt w+1000000*x.sz<=1600000000000):S1 (fun u=>u.2=u.1/\wt u.1<=wt w+2000000*x.sz) (a3t n w x):=by
 have ih1:=fun w hw=>c7T hb hs hn w hw;have ih2:=fun w hw=>c8B hb hs hn w hw;have ih3:=fun w hw=>c39 hb hs hn w hw;obtain⟨b1,b2,b3,b4,b5⟩:=x.a4w.1 hb;have hz:=x.S9;have hl:=G5 x.l;have ih4:=typd (n:=n) b3 (by omega) (by omega);have ih5:=lpo (l:=x.l) (c:=fun y=>7*y.sz) (s:=fun l=>7*szN l) (by rw[Q8]) (fun y r=>by rw[K6];omega) (by omega) (L:=fun m i w=>P8 n x m w i) (fun m i k y w hy hi c1 c2 c3 ih1 hw=>by
  have hsy:=I5 hy;have ih2:=fun w hw=>memb_tot (Y4 b5 hy) (by omega) (n:=n) (by omega) w hw;rw[P8.eq_2];exact tot) (fun m w c1 c2 c3=>by
  rw[P8.eq_2];exact tot) (n:=n) (by omega)
 have hL:∀{u:List Str},wt u<=wt w+2000000*x.sz->S1 (fun u=>u.2=u.1/\wt u.1<=wt w+2000000*x.sz) (some (u,u)):=fun h=>⟨_,rfl,rfl,h⟩
 unfold a3t;refine b9h (d:=0) (c:=20) (w:=w) (by exact tot) fun w1 h1=>b9h (d:=0) (c:=20) (w:=w1) (by exact tot) fun w2 h2=>?_;exact tot
end
end Go.Proofs.YtmippldlhnajkaaGreatDoor
namespace Go.Proofs.YtmippldlhnajkaaGreatDoor
open Go Go.Vm Pr
noncomputable def kindF (a:List Typ)(s:Str):Int:=((Option.bind (α:=Bool) (cond (eqB (List.length a:Int) 0) (some (eqS s [73,110,116])) (some false)) fun x559 =>cond x559 (some 1) (Option.bind (α:=Bool) (cond (eqB (List.length a:Int) 0) (some (eqS s [66,111,111,108])) (some false)) fun x560 =>cond x560 (some 2) (Option.bind (α:=Bool) (cond (eqB (List.length a:Int) 0) (some (eqS s [84,101,120,116])) (some false)) fun x561 =>cond x561 (some 3) (Option.bind (α:=Bool) (cond (eqB (List.length a:Int) 0) (some (eqS s [85,110,105,116])) (some false)) fun x562 =>cond x562 (some 4) (Option.bind (α:=Bool) (cond (eqB (List.length a:Int) 1) (some (eqS s [65,114,114,97,121])) (some false)) fun x563 =>cond x563 (some 5) (Option.bind (α:=Bool) (cond (eqB (List.length a:Int) 1) (some (eqS s [87,101,97,107])) (some false)) fun x564 =>cond x564 (some 11) (some 6))))))):Option Int).getD 0
theorem c71 (a:List Typ)(s:Str):∃q:Int,((Option.bind (α:=Bool) (
 cond (eqB (List.length a:Int) 0) (
 some (eqS s [73,110,116])) (
 some false)) fun x559 =>
 cond x559 (
 some 1) (
 Option.bind (α:=Bool) (
 cond (eqB (List.length a:Int) 0) (
 some (eqS s [66,111,111,108])) (
 some false)) fun x560 =>
 cond x560 (
 some 2) (
 Option.bind (α:=Bool) (
 cond (eqB (List.length a:Int) 0) (
 some (eqS s [84,101,120,116])) (
 some false)) fun x561 =>
 cond x561 (
 some 3) (
 Option.bind (α:=Bool) (
 cond (eqB (List.length a:Int) 0) (
 some (eqS s [85,110,105,116])) (
 some false)) fun x562 =>
 cond x562 (
 some 4) (
 Option.bind (α:=Bool) (
 cond (eqB (List.length a:Int) 1) (
 some (eqS s [65,114,114,97,121])) (
 some false)) fun x563 =>
 cond x563 (
 some 5) (
 Option.bind (α:=Bool) (
 cond (eqB (List.length a:Int) 1) (
 some (eqS s [87,101,97,107])) (
 some false)) fun x564 =>
 cond x564 (
 some 11) (
 some 6))))))):Option Int)=some q/\q≠8:=by
 cases eqB (List.length a:Int) 0<;>cases eqB (List.length a:Int) 1<;>cases eqS s [73,110,116]<;>cases eqS s [66,111,111,108]<;>cases eqS s [84,101,120,116]<;>cases eqS s [85,110,105,116]<;>cases eqS s [65,114,114,97,121]<;>cases eqS s [87,101,97,107]<;>exact⟨_,rfl,by decide⟩
theorem kind_eq (a:List Typ)(s:Str):((Option.bind (α:=Bool) (
 cond (eqB (List.length a:Int) 0) (
 some (eqS s [73,110,116])) (
 some false)) fun x559 =>
 cond x559 (
 some 1) (
 Option.bind (α:=Bool) (
 cond (eqB (List.length a:Int) 0) (
 some (eqS s [66,111,111,108])) (
 some false)) fun x560 =>
 cond x560 (
 some 2) (
 Option.bind (α:=Bool) (
 cond (eqB (List.length a:Int) 0) (
 some (eqS s [84,101,120,116])) (
 some false)) fun x561 =>
 cond x561 (
 some 3) (
 Option.bind (α:=Bool) (
 cond (eqB (List.length a:Int) 0) (
 some (eqS s [85,110,105,116])) (
 some false)) fun x562 =>
 cond x562 (
 some 4) (
 Option.bind (α:=Bool) (
 cond (eqB (List.length a:Int) 1) (
 some (eqS s [65,114,114,97,121])) (
 some false)) fun x563 =>
 cond x563 (
 some 5) (
 Option.bind (α:=Bool) (
 cond (eqB (List.length a:Int) 1) (
 some (eqS s [87,101,97,107])) (
 some false)) fun x564 =>
 cond x564 (
 some 11) (
 some 6))))))):Option Int)=some (kindF a s):=by
 obtain⟨q,h,_⟩:=c71 a s;unfold kindF;rw[h];rfl
theorem kindF_ne (a:List Typ)(s:Str):kindF a s≠8:=by
 obtain⟨q,h,hq⟩:=c71 a s;unfold kindF;rw[h];exact hq
section
variable {l:List Tok} {size:Int} (C:Cx l)
include C
theorem c5x {n k0:Nat}{Φ:u7}{pl:Int}(pt1:∀{pl:Int} {k:Nat},k<=l.length->k0<=k->S1 (QT l k) (Φ.J4 l size k pl)):∀(m k:Nat) (xs:List Typ),k0<=k->k<=l.length->l.length+1<m+k->szT xs+k0<=k ->(∀x∈xs,GT x)->S1 (QTs l k0) (bS (a18 n Φ size l pl m xs true (k:Int)) (fun(b7L,c3E)=>some ((b7L,true,c3E))) some)
 | m+2,k,xs,h1,h2,h3,h4,h5=>by
  have hl:=C.hl;have hx:=a4t xs;have ih:=fun{k:Nat} {xs:List Typ}=>c5x (n:=n) (k0:=k0) (Φ:=Φ) (pl:=pl) pt1 (m+1) k xs;have fin:∀(zs:List Typ) (q:Int),a18 n Φ size l pl (m+1) zs false q=some (.brk (zs,q)):=fun _ _=>rfl;rw[a18.eq_2];exact one
 | 0,_,_,_,_,_,_,_=>by omega
 | 1,_,_,_,_,_,_,_=>by omega
theorem typ_lp {n k0:Nat}{Φ:u7}{pl:Int}:∀(m k:Nat) (t:Typ),k0<=k->k<=l.length->l.length+1<m+k->t.sz+k0<=k->GT t->S1 (QT l k0) ((a1l n Φ size l pl m true (k:Int) t).bind fun(ok595,b3n,n597)=>some ((n597,ok595,b3n)))
 | m+2,k,t,h1,h2,h3,h4,h5=>by
  have hl:=C.hl;have ih:=fun{k:Nat} {t:Typ}=>typ_lp (n:=n) (k0:=k0) (Φ:=Φ) (pl:=pl) (m+1) k t;have fin:∀(q:Int) (t:Typ),a1l n Φ size l pl (m+1) false q t=some (false,q,t):=fun _ _=>rfl;rw[a1l.eq_2];exact one
 | 0,_,_,_,_,_,_,_=>by omega
 | 1,_,_,_,_,_,_,_=>by omega
theorem typ_no {n:Nat}{Φ:u7}{pl:Int}{m:Nat}(hm:1<=m)(q:Int)(t:Typ):a1l n Φ size l pl m false q t=some (false,q,t):=by
 obtain⟨m,rfl⟩:∃j,m=j+1:=⟨m-1,by omega⟩
 rfl
def HT (l:List Tok)(size:Int)(n:Nat):Prop:=(∀{pl:Int} {k:Nat},k<=l.length->30000+40*(l.length-k)+10<=n->S1 (QT l k) ((u7.fs n).J4 l size k pl))/\(∀{pl:Int} {k:Nat},k<=l.length->30000+40*(l.length-k)+15<=n->S1 (QTs l k) ((u7.fs n).U1 l size k pl))/\(∀{pl:Int} {k:Nat},k<=l.length->30000+40*(l.length-k)+5<=n->S1 (QT l k) ((u7.fs n).V3 l size k pl))
theorem ht:∀n,HT l size n
 | 0=>⟨fun _ h=>by omega,fun _ h=>by omega,fun _ h=>by omega⟩
 | n+1=>by
  have hl:=C.hl;obtain⟨pt1,pt3,pt2⟩:=ht n;refine⟨fun{pl k} hk hn=>?_,fun{pl k} hk hn=>?_,fun{pl k} hk hn=>?_⟩
  ·show S1 (QT l k) (a3v n (u7.fs n) l size k pl);have lp1:=fun{k0 k:Nat} {t:Typ} h1 h2 h3 h4=>typ_lp C (size:=size) (n:=n) (k0:=k0) (Φ:=u7.fs n) (pl:=pl) n k t h1 h2 (by omega) h3 h4;have fin:=fun q t=>typ_no C (size:=size) (n:=n) (Φ:=u7.fs n) (pl:=pl) (m:=n) (by omega) q t;unfold a3v;exact one
  ·show S1 (QTs l k) (a2C n (u7.fs n) l size k pl);have lp1:=fun{k':Nat} {xs:List Typ} h1 h2 h4 h5=>c5x C (size:=size) (n:=n) (k0:=k) (Φ:=u7.fs n) (pl:=pl) (fun h1 h2=>pt1 h1 (by omega)) n k' xs h1 h2 (by omega) h4 h5;unfold a2C;exact one
  ·show S1 (QT l k) (a2W n (u7.fs n) l size k pl);unfold a2W;simp only[kind_eq];have kn:=kindF_ne;exact one
theorem c1j {n k0:Nat}{pl:Int}{m0:List Nod}(hm:m0.length<=30000)(hn:200000<=n):∀(m k:Nat) (xs zs:List Nod),k0<=k->k<=l.length->l.length+1<m+k->zs=m0++xs->szN xs+4*k0<=4*k ->(∀x∈xs,G 4 x)->S1 (QM l (G 4) m0 k0) (bS (a1C n size l pl m zs true (k:Int)) (fun(l523,b7e)=>(o8 [41] l size b7e pl).bind fun(r24,at25)=>some ((l523,r24,at25))) some)
 | m+2,k,xs,_,h1,h2,h3,rfl,h4,h5=>by
  have hl:=C.hl;have hx:=G5 xs;have ih:=fun{k:Nat} {xs zs:List Nod} h1 h2 h3 h4 h5 h6=>c1j (n:=n) (k0:=k0) (pl:=pl) (m0:=m0) hm hn (m+1) k xs zs h1 h2 h3 h4 h5 h6;have pt1:=fun{pl:Int} {k:Nat} (h1:k<=l.length) (_:True)=>(ht C (size:=size) n).1 (pl:=pl) h1 (by omega);have fin:∀(zs:List Nod) (q:Int),a1C n size l pl (m+1) zs false q=some (.brk (zs,q)):=fun _ _=>rfl;rw[a1C.eq_2];exact one
 | 0,_,_,_,_,_,_,_,_,_=>by omega
 | 1,_,_,_,_,_,_,_,_,_=>by omega
theorem c2H {n k:Nat}{pl:Int}{m0:List Nod}(hm:m0.length<=30000)(hk:k<=l.length)(hn:200000<=n):S1 (QM l (G 4) m0 k) (a1K n m0 l size (k:Int) pl):=by
 have hl:=C.hl;have lp1:=fun{k':Nat} h1 h2 (_:True) (_:True)=>c1j C (size:=size) (n:=n) (k0:=k) (pl:=pl) (m0:=m0) hm hn n k' [] m0 h1 h2 (by omega) (List.append_nil _).symm (by simp only[Q8];omega) all_nil;unfold a1K;exact one
theorem c77 {n k0:Nat}{pl a:Int}:∀(m k:Nat) (op:Int) (s:Str) (xs:List Nod),k0<=k->k<=l.length->l.length+1<m+k->szN xs+2+4*k0<=4*k->G 0 ⟨op,s,0,zT,[],xs,a⟩->S1 (QP l (G 0) k0) ((a1k n size l pl a m true (k:Int) op s xs).bind fun(ok524,b7f,op526,s527,l528)=>some (((⟨op526,s527,0,(⟨0,[],0,[]⟩:Typ),[],l528,a⟩:Nod),ok524,b7f)))
 | m+2,k,op,s,xs,h1,h2,h3,h4,h5=>by
  have hl:=C.hl;have ih:=fun{k:Nat} {op:Int} {s:Str} {xs:List Nod}=>c77 (n:=n) (k0:=k0) (pl:=pl) (a:=a) (m+1) k op s xs;have fin:∀(q:Int) (o:Int) (u:Str) (v:List Nod),a1k n size l pl a (m+1) false q o u v=some (false,q,o,u,v):=fun _ _ _ _=>rfl;rw[a1k.eq_2];exact one
 | 0,_,_,_,_,_,_,_,_,_=>by omega
 | 1,_,_,_,_,_,_,_,_,_=>by omega
theorem lent_no {n m:Nat}{pl a:Int}(hm:1<=m)(q o:Int)(u:Str)(v:List Nod):a1k n size l pl a m false q o u v=some (false,q,o,u,v):=by
 obtain⟨m,rfl⟩:∃j,m=j+1:=⟨m-1,by omega⟩
 rfl
theorem lent1 {n k:Nat}{pl:Int}(hk:k<=l.length)(hn:30000<=n):S1 (QP l (G 0) k) (a3Z n l size (k:Int) pl):=by
 have hl:=C.hl;have lp1:=fun{a:Int} {k':Nat} {op:Int} {s:Str} {xs:List Nod} h1 h2 h3 h4=>c77 C (size:=size) (n:=n) (k0:=k) (pl:=pl) (a:=a) n k' op s xs h1 h2 (by omega) h3 h4;have fin:=fun a q o u v=>lent_no C (size:=size) (n:=n) (pl:=pl) (a:=a) (m:=n) (by omega) q o u v;unfold a3Z;exact one
theorem pat_lp {n k0:Nat}{pl a:Int}{s:Str}{Φ:F7}(hs:s.length<=20000)(pp1:∀{pl:Int} {k:Nat},k<=l.length->k0<k->S1 (QP l (G 3) k) (Φ.M9 l size k pl)):∀(m k:Nat) (xs:List Nod),k0<k->k<=l.length->l.length+1<m+k->szN xs+2+4*k0<=4*k ->(∀x∈xs,G 3 x)->S1 (QP l (G 3) k0) (bS (a06 n Φ size l pl s a m xs true (k:Int)) (fun(b8Y,a9l)=>(o8 [41] l size a9l pl).bind fun(r39,at40)=>some (((⟨45,s,0,(⟨0,[],0,[]⟩:Typ),[],b8Y,a⟩:Nod),r39,at40))) some)
 | m+2,k,xs,h1,h2,h3,h4,h5=>by
  have hl:=C.hl;have hx:=G5 xs;have ih:=fun{k:Nat} {xs:List Nod}=>pat_lp (n:=n) (k0:=k0) (pl:=pl) (a:=a) (s:=s) (Φ:=Φ) hs pp1 (m+1) k xs;have fin:∀(zs:List Nod) (q:Int),a06 n Φ size l pl s a (m+1) zs false q=some (.brk (zs,q)):=fun _ _=>rfl;rw[a06.eq_2];exact one
 | 0,_,_,_,_,_,_,_=>by omega
 | 1,_,_,_,_,_,_,_=>by omega
theorem pat1:∀(n:Nat) {pl:Int} {k:Nat},k<=l.length->30000+40*(l.length-k)<=n->S1 (QP l (G 3) k) ((F7.fs n).M9 l size k pl)
 | 0,_,_,_,h=>by omega
 | n+1,pl,k,hk,hn=>by
  have hl:=C.hl;show S1 (QP l (G 3) k) (a1D n (F7.fs n) l size k pl);have lp1:=fun{a:Int} {s:Str} {k':Nat} {xs:List Nod} hs h1 h2 h4 h5=>pat_lp C (size:=size) (n:=n) (k0:=k) (pl:=pl) (a:=a) (s:=s) (Φ:=F7.fs n) hs (fun h1 h2=>pat1 n h1 (by omega)) n k' xs h1 h2 (by omega) h4 h5;unfold a1D;exact one
end
end Go.Proofs.YtmippldlhnajkaaGreatDoor
namespace Go.Proofs.YtmippldlhnajkaaGreatDoor
open Go Go.Vm Pr
theorem c41 {n:Nat}:∀(m:Nat) (x:Nod),x.sz<m -> ∃y,a5F n m x=some y
 | 0,x,h=>by omega
 | m+1,x,h=>by
  rw[a5F.eq_2];rcases Classical.em (x.op=55/\(x.l.length:Int)=1)with⟨h1,h2⟩|h1
  ·rw[a1s h1,a1s h2];simp only[NF];rcases hx:x.l with _ |⟨y,r⟩
   ·rw[hx]at h2;simp at h2
   ·simp only[LIT,NF];have h3:=x.S9;rw[hx,K6]at h3;exact c41 m y (by omega)
  ·have e:Option.bind (α:=Bool) (cond (eqB x.op 55) (some (eqB (List.length x.l:Int) 1)) (some false)) (fun x504=>cond x504 ((idx' x.l 0).bind fun x2=>a5F n m x2) (some x))=some x:=by
    rcases Classical.em (x.op=55)with h2|h2
    ·rw[a1s h2,a0i (fun h3=>h1 ⟨h2,h3⟩)];rfl
    ·rw[a0i h2];rfl
   rw[e];exact⟨_,rfl⟩
structure HE (l:List Tok)(size:Int)(n:Nat):Prop where
 f_expr:∀{pl:Int} {k:Nat},k<=l.length->200000+40*(l.length-k)+22<=n->S1 (QN l (G 0) k) ((d9.fs n).H8 l size k pl)
 f_unary:∀{pl:Int} {k:Nat},k<=l.length->200000+40*(l.length-k)+13<=n->S1 (QN l (G 0) k) ((d9.fs n).U2 l size k pl)
 f_postfix:∀{pl:Int} {k:Nat},k<=l.length->200000+40*(l.length-k)+11<=n->S1 (QN l (G 0) k) ((d9.fs n).U8 l size k pl)
 f_atom:∀{pl:Int} {k:Nat},k<=l.length->200000+40*(l.length-k)+10<=n->S1 (QN l (G 0) k) ((d9.fs n).Z9 l size k pl)
 f_interpolated:∀{pl:Int} {k:Nat},isK l 5 k=true->k<=l.length->200000+40*(l.length-k)+9<=n->S1 (QN l (G 0) k) ((d9.fs n).M7 l size k pl)
 f_closure:∀{pl:Int} {k:Nat},k<=l.length->200000+40*(l.length-k)+9<=n->S1 (QN l (G 0) k) ((d9.fs n).U7 l size k pl)
 f_path:∀{pl:Int} {k:Nat},k<=l.length->200000+40*(l.length-k)+9<=n->S1 (QN l (G 0) k) ((d9.fs n).a0a l size k pl)
 f_statement:∀{pl:Int} {k:Nat},k<=l.length->200000+40*(l.length-k)+30<=n->S1 (QN l (G 1) k) ((d9.fs n).O6 l size k pl)
 f_block:∀{pl:Int} {k:Nat},k<=l.length->200000+40*(l.length-k)+34<=n->S1 (QN l (G 2) k) ((d9.fs n).I8 l size k pl)
 f_local:∀{pl:Int} {k:Nat},k<=l.length->200000+40*(l.length-k)+26<=n->S1 (QN l (G 1) k) ((d9.fs n).Y2 l size k pl)
 f_simple:∀{pl:Int} {k:Nat},k<=l.length->200000+40*(l.length-k)+26<=n->S1 (QN l (G 1) k) ((d9.fs n).V9 l size k pl)
 f_cond:∀{pl:Int} {k:Nat},isT l 9 [105,102] k=true->200000+40*(l.length-k)+28<=n->S1 (QN l (fun x=>G 1 x/\x.op=24) k) ((d9.fs n).M4 l size k pl)
 f_level:∀{pl:Int} {k j:Nat},k<=l.length->j<=5->200000+40*(l.length-k)+20<=n+j->S1 (QN l (G 0) k) ((d9.fs n).P9 (j:Int) l size k pl)
 f_args:∀{pl:Int} {k:Nat} {m0:List Nod},m0.length<=30000->k<=l.length->200000+40*(l.length-k)+9<=n->S1 (QA l (G 6) m0 k) ((d9.fs n).M5 m0 l size k pl)
 f_stmts:∀{pl:Int} {k:Nat},k<=l.length->200000+40*(l.length-k)+32<=n->S1 (QL l (G 1) [] k) ((d9.fs n).N7 l size k pl)
 f_mat:∀{a pl:Int} {k:Nat},k<=l.length->200000+40*(l.length-k)+26<=n->S1 (QX l k) ((d9.fs n).Y3 a l size k pl)
section
variable {l:List Tok} {size:Int} (C:Cx l)
include C
theorem t_place {A:Type}{Q:A->Prop}{n:Nat}{x:Nod}{f:Bool->Option A}(h:x.sz<n)(h1:∀b,S1 Q (f b)):S1 Q ((a8q n x).bind f):=by
 obtain⟨y,e⟩:=c41 (n:=n) n x h;unfold a8q;rw[e];exact h1 _
def okop (l:List Tok)(k:Nat)(s:Str):Prop:=isT l 8 s k=true/\s.length<=2 /\ ∃a r,s=a::r
theorem row_ok {j:Nat}(hj:j<5):∃row:List Str,idx' ([[[124,124]],[[38,38]],[[61,61],[33,61],[60],[60,61],[62],[62,61]],[[43],[45]],[[42],[47],[37]]]:List (List Str)) (j:Int)=some row/\row.length<=10 /\ ∀s∈row,s.length<=2 /\ ∃a r,s=a::r:=by
 have h:j<([[[124,124]],[[38,38]],[[61,61],[33,61],[60],[60,61],[62],[62,61]],[[43],[45]],[[42],[47],[37]]]:List (List Str)).length:=hj;refine⟨_,O3 h,?_⟩;match j,hj with
 | 0,_=>exact⟨by simp,fun s hs=>by simp at hs;subst hs;exact⟨by decide,_,_,rfl⟩⟩
 | 1,_=>exact⟨by simp,fun s hs=>by simp at hs;subst hs;exact⟨by decide,_,_,rfl⟩⟩
 | 2,_=>exact⟨by simp,fun s hs=>by simp at hs;rcases hs with rfl|rfl|rfl|rfl|rfl|rfl<;>exact⟨by decide,_,_,rfl⟩⟩
 | 3,_=>exact⟨by simp,fun s hs=>by simp at hs;rcases hs with rfl|rfl<;>exact⟨by decide,_,_,rfl⟩⟩
 | 4,_=>exact⟨by simp,fun s hs=>by simp at hs;rcases hs with rfl|rfl|rfl<;>exact⟨by decide,_,_,rfl⟩⟩
theorem c6N {n k:Nat}{Φ:d9}{q pl:Int}{x:Nod}{nn:Int}{row:List Str}(hr:idx' ([[[124,124]],[[38,38]],[[61,61],[33,61],[60],[60,61],[62],[62,61]],[[43],[45]],[[42],[47],[37]]]:List (List Str)) q=some row)(hL:row.length<=10)(hR:∀s∈row,s.length<=2 /\ ∃a r,s=a::r)(hk:k<=l.length):∀(m i:Nat) (op:Str),i<=row.length->row.length<m+i ->(op=[]∨okop l k op) -> ∃op',a3h n Φ size q l m nn op i k pl x=some (nn,op',(k:Int),pl,x)/\(op'=[]∨okop l k op')
 | 0,i,op,h1,h2,h3=>by omega
 | m+1,i,op,h1,h2,h3=>by
  rw[a3h.eq_2,hr];simp only[NF];rcases Nat.lt_or_ge i row.length with h|h
  ·obtain⟨h4,a,r,h5⟩:=hR _ (List.getElem_mem h);rw[R4 (by omega),O3 h];simp only[NF,h5,b5R C.hl hk size pl 8 (a::r),L6 (show i<=1000000000000 by omega)];cases hb:isT l 8 (a::r) k
   ·simp only[NF];exact c6N hr hL hR hk m (i+1) op (by omega) (by omega) h3
   ·simp only[NF];exact c6N hr hL hR hk m (i+1) (a::r) (by omega) (by omega) (.inr ⟨hb,by rw[<-h5];exact h4,a,r,rfl⟩)
  ·rw[O8 (by omega)];exact⟨op,rfl,h3⟩
theorem c4o {n k0 j:Nat}(hj:j<5){Φ:d9}(hn:200000<=n)(pn1:∀{pl:Int} {k:Nat},k<=l.length->k0<k->S1 (QN l (G 0) k) (Φ.P9 ((j+1:Nat):Int) l size k pl)):∀(m k:Nat) (nn pl:Int) (x:Nod),k0<=k->k<=l.length->l.length+1<m+k->x.sz+4*k0<=4*k->G 0 x->S1 (QN l (G 0) k0) (bS (Y6 n Φ size (j:Int) l m true nn k pl x) (fun(ok647,at648,b9x,n650)=>some ((n650,ok647,at648,b9x))) some)
 | m+2,k,nn,pl,x,h1,h2,h3,h4,h5=>by
  have hl:=C.hl;have hz:=x.S9;have ih:=fun{k:Nat} {nn pl:Int} {x:Nod}=>c4o (k0:=k0) hj (Φ:=Φ) hn pn1 (m+1) k nn pl x;have fin:∀(b q r:Int) (x:Nod),Y6 n Φ size (j:Int) l (m+1) false b q r x=some (.brk (false,q,r,x)):=fun _ _ _ _=>rfl;obtain⟨row,r1,r2,r3⟩:=row_ok C hj;obtain⟨op',e,h6⟩:=c6N C (size:=size) (n:=n) (Φ:=Φ) (pl:=pl) (x:=x) (nn:=nn) r1 r2 r3 h2 n 0 [] (Nat.zero_le _) (by omega) (.inl rfl);simp only[Int.natCast_zero]at e;rw[Y6.eq_2];simp only[NF,e,L6 (show j<=1000000000000 by omega)];rcases h6 with rfl |⟨h6,h7,a,r,rfl⟩
  ·skip
   simp only[b0X,NF];exact one
  ·have h8:List.length (a::r)<=20000:=by omega
   simp only[eqS_cons,NF];exact one
 | 0,_,_,_,_,_,_,_,_,_=>by omega
 | 1,_,_,_,_,_,_,_,_,_=>by omega
end
end Go.Proofs.YtmippldlhnajkaaGreatDoor
