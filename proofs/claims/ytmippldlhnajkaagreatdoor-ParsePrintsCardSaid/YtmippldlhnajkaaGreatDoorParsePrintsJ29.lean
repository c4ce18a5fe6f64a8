/- Texts of ParsePrints, joined. -/
import Derived.Test.YtmippldlhnajkaaGreatDoorParsePrintsJ28
set_option maxRecDepth 100000
set_option maxHeartbeats 20000000
set_option linter.unusedSimpArgs false
set_option linter.unusedVariables false
set_option linter.unusedSectionVars false
namespace Go.Proofs.YtmippldlhnajkaaGreatDoor
open Go Go.Vm Pr
section
variable {l:List Tok} {size:Int} (C:Cx l)
include C
theorem c8u {n k0:Nat}{Φ:d9}(pa1:∀{pl:Int} {k:Nat} {m0:List Nod},m0.length<=30000->k<=l.length->k0<k->S1 (QA l (G 6) m0 k) (Φ.M5 m0 l size k pl)):∀(m k:Nat) (pl:Int) (x:Nod),k0<k->k<=l.length->l.length+1<m+k->x.sz+4*k0<=4*k->G 0 x->S1 (QN l (G 0) k0) (bS (V6 n Φ size l m true (k:Int) pl x) (fun(c4D,b7g,a9F,n555)=>some ((n555,c4D,b7g,a9F))) some)
 | m+2,k,pl,x,h1,h2,h3,h4,h5=>by
  have hl:=C.hl;have hz:=x.S9;have ih:=fun{k:Nat} {pl:Int} {x:Nod}=>c8u (k0:=k0) (n:=n) (Φ:=Φ) pa1 (m+1) k pl x;have fin:∀(q r:Int) (x:Nod),V6 n Φ size l (m+1) false q r x=some (.brk (false,q,r,x)):=fun _ _ _=>rfl;rw[V6.eq_2];exact one
 | 0,_,_,_,_,_,_,_,_=>by omega
 | 1,_,_,_,_,_,_,_,_=>by omega
theorem post_no {n m:Nat}{Φ:d9}(hm:1<=m)(q r:Int)(x:Nod):V6 n Φ size l m false q r x=some (.brk (false,q,r,x)):=by
 obtain⟨m,rfl⟩:∃j,m=j+1:=⟨m-1,by omega⟩
 rfl
theorem c7A {n k0:Nat}{a:Int}{Φ:d9}(pn1:∀{pl:Int} {k:Nat},k<=l.length->k0<k->S1 (QN l (G 0) k) (Φ.H8 l size k pl)):∀(m k:Nat) (pl:Int) (xs:List Nod),k0<k->k<=l.length->l.length+1<m+k->szN xs+4+4*k0<=4*k ->(∀x∈xs,G 0 x)->S1 (QN l (G 0) k0) (bS (a13 n Φ size l a m true (k:Int) pl xs) (fun(b0U,b3Q,l562)=>(o8 [93] l size b0U b3Q).bind fun(r47,at48)=>some (((⟨67,[],0,(⟨0,[],0,[]⟩:Typ),[],l562,a⟩:Nod),r47,at48,b3Q))) some)
 | m+2,k,pl,xs,h1,h2,h3,h4,h5=>by
  have hl:=C.hl;have hx:=G5 xs;have ih:=fun{k:Nat} {pl:Int} {xs:List Nod}=>c7A (k0:=k0) (n:=n) (a:=a) (Φ:=Φ) pn1 (m+1) k pl xs;have fin:∀(q r:Int) (zs:List Nod),a13 n Φ size l a (m+1) false q r zs=some (.brk (q,r,zs)):=fun _ _ _=>rfl;rw[a13.eq_2];exact one
 | 0,_,_,_,_,_,_,_,_=>by omega
 | 1,_,_,_,_,_,_,_,_=>by omega
theorem c7z {n k0:Nat}{m0:List Nod}(hm:m0.length<=30000)(hn:200000<=n){Φ:d9}(pn1:∀{pl:Int} {k:Nat},k<=l.length->k0<k->S1 (QN l (G 0) k) (Φ.H8 l size k pl)):∀(m k:Nat) (pl:Int) (xs zs:List Nod),k0<k->k<=l.length->l.length+1<m+k->zs=m0++xs->szN xs+4+4*k0<=4*k ->(∀x∈xs,G 6 x)->S1 (QA l (G 6) m0 k0) (bS (a2w n Φ size l m zs true (k:Int) pl) (fun(l560,b8q,a9G)=>(o8 [41] l size b8q a9G).bind fun(r23,at24)=>some ((l560,r23,at24,a9G,l560))) some)
 | m+2,k,pl,xs,_,h1,h2,h3,rfl,h4,h5=>by
  have hl:=C.hl;have hx:=G5 xs;have ih:=fun{k:Nat} {pl:Int} {xs zs:List Nod} h1 h2 h3 h4 h5 h6=>c7z (k0:=k0) (n:=n) (m0:=m0) (Φ:=Φ) hm hn pn1 (m+1) k pl xs zs h1 h2 h3 h4 h5 h6;have pp1:=fun{pl:Int} {k:Nat} (h1:k<=l.length) (_:True)=>lent1 C (size:=size) (n:=n) (pl:=pl) h1 (by omega);have fin:∀(zs:List Nod) (q r:Int),a2w n Φ size l (m+1) zs false q r=some (.brk (zs,q,r)):=fun _ _ _=>rfl;rw[a2w.eq_2];exact one
 | 0,_,_,_,_,_,_,_,_,_,_=>by omega
 | 1,_,_,_,_,_,_,_,_,_,_=>by omega
theorem c5q {n k0:Nat}{Φ:d9}(pn1:∀{pl:Int} {k:Nat},k<=l.length->k0<=k->S1 (QN l (G 1) k) (Φ.O6 l size k pl)):∀(m k:Nat) (pl:Int) (xs:List Nod),k0<=k->k<=l.length->l.length+1<m+k->szN xs+4*k0<=4*k ->(∀x∈xs,G 1 x)->S1 (QL l (G 1) [] k0) (bS (a1F n Φ size l m xs (k:Int) pl) (fun(l529,at530,place531)=>some ((l529,true,at530,place531))) some)
 | m+1,k,pl,xs,h1,h2,h3,h4,h5=>by
  have hl:=C.hl;have hx:=G5 xs;have ih:=fun{k:Nat} {pl:Int} {xs:List Nod}=>c5q (k0:=k0) (n:=n) (Φ:=Φ) pn1 m k pl xs;rw[a1F.eq_2];exact one
 | 0,_,_,_,_,_,_,_,_=>by omega
theorem c4A {n k0:Nat}{x:Nod}{F:List Nod×Int×Int->Option (List Nod×Bool×Int×Int)}(hx:G 0 x)(hn:200000<=n){Φ:d9}(pn2:∀{pl:Int} {k:Nat},k<=l.length->k0<k->S1 (QN l (G 2) k) (Φ.I8 l size k pl))(hF:∀{k:Nat} {pl:Int} {ys:List Nod},k0<=k->k<=l.length->x.sz+szN ys+4*k0<=4*k->ys.length<=12000 ->(∀x∈ys,G 5 x)->S1 (QX l k0) (F (x::ys,(k:Int),pl))):∀(m k:Nat) (pl:Int) (ys:List Nod),k0<=k->k<=l.length->l.length+1<m+k->x.sz+szN ys+4*k0<=4*k ->(∀x∈ys,G 5 x)->S1 (QX l k0) (bS (a3C n Φ size l m (x::ys) (k:Int) pl) F some)
 | m+1,k,pl,ys,h1,h2,h3,h4,h5=>by
  have hl:=C.hl;have hy:=G5 ys;have hz:=x.S9;have hc:(x::ys).length<=100000:=by simp only[List.length_cons];omega
  have ih:=fun{k:Nat} {pl:Int} {ys:List Nod}=>c4A (k0:=k0) (n:=n) (x:=x) (Φ:=Φ) hx hn pn2 hF m k pl ys;have pp1:=fun{pl:Int} {k:Nat} (h1:k<=l.length) (_:True)=>pat1 C (size:=size) n (pl:=pl) h1 (by omega);rw[a3C.eq_2];simp only[M9];exact one
 | 0,_,_,_,_,_,_,_,_=>by omega
theorem c8q {n k0:Nat}{a pl:Int}{Φ:d9}(pa1:∀{pl:Int} {k:Nat} {m0:List Nod},m0.length<=30000->k<=l.length->k0<k->S1 (QA l (G 6) m0 k) (Φ.M5 m0 l size k pl)):∀(m k:Nat) (t:Typ),k0<k->k<=l.length->l.length+1<m+k->t.sz+k0<=k->GT t->S1 (QN l (G 0) k0) (bS (a2B n Φ size l pl a true m (k:Int) t) (fun a98=>some (((⟨0,[],0,(⟨0,[],0,[]⟩:Typ),[],[],a⟩:Nod),false,a98,pl))) some)
 | m+1,k,t,h1,h2,h3,h4,h5=>by
  have hl:=C.hl;have hz:=t.S9;have ih:=fun{k:Nat} {t:Typ}=>c8q (k0:=k0) (n:=n) (a:=a) (pl:=pl) (Φ:=Φ) pa1 m k t;rw[a2B.eq_2];exact one
 | 0,_,_,_,_,_,_,_=>by omega
theorem path_no {n m:Nat}{a pl:Int}{Φ:d9}(hm:1<=m)(q:Int)(t:Typ):a2B n Φ size l pl a false m q t=some (.brk q):=by
 obtain⟨m,rfl⟩:∃j,m=j+1:=⟨m-1,by omega⟩
 rfl
theorem c0W {n k0:Nat}{a:Int}{Φ:d9}(pn1:∀{pl:Int} {k:Nat},k<=l.length->k0<k->S1 (QN l (G 0) k) (Φ.H8 l size k pl)):∀(m k:Nat) (pl:Int) (xs:List Nod),k0<=k->k<l.length->l.length+1<m+k->szN xs+4*k0<=4*k->xs.length%2=0 ->(xs=[]->isK l 5 k=true) ->(∀x∈xs,G 0 x)->S1 (QN l (G 0) k0) (a0m n Φ size l a m (k:Int) pl xs)
 | m+1,k,pl,xs,h1,h2,h3,h4,h5,h6,h7=>by
  have hl:=C.hl;have hx:=G5 xs;have ih:=fun{k:Nat} {pl:Int} {xs:List Nod}=>c0W (k0:=k0) (n:=n) (a:=a) (Φ:=Φ) pn1 m k pl xs;rw[a0m.eq_2,O3 h2];have ht:l[k].text=b1O l k:=by unfold b1O;rw[List.getElem?_eq_getElem h2]
  have hk:eqB l[k].kind 7=isK l 7 k:=by unfold isK;rw[List.getElem?_eq_getElem h2]
  have hs:(b1O l k).length<=20000:=C.txt k;simp only[Option.bind_some,hk,ht];rw[c3C (by omega) (by simp) (by omega)];simp (disch:=omega) only[Option.bind_some,L6];have hT:G 0 ⟨52,b1O l k,0,zT,[],[],l[k].at_⟩:=.text hs;cases hb:isK l 7 k with
  | true =>
   have hne:xs ≠ []:=fun h=>by
    have:=c6u C (h6 h) (show(5:Int)≠7 by decide);rw[this]at hb;cases hb
   have hlen:0<xs.length:=List.length_pos_iff.2 hne;refine qn_ok C (by omega) (by omega) ?_ (.interp (b5F h7 (a8P hT)) ?_ ?_)
   ·simp only[SZ];omega
   ·simp only[List.length_append,List.length_singleton];omega
   ·simp only[List.length_append,List.length_singleton];omega
  | false =>
   have nx:∀(x:Nod) (q:Nat) (pl:Int),k+1<q->q<=l.length->x.sz+4*(k+1)<=4*q->G 0 x->q<l.length->S1 (QN l (G 0) k0) (((app 144 (xs++[(⟨52,b1O l k,0,(⟨0,[],0,[]⟩:Typ),[],[],l[k].at_⟩:Nod)]) ([x]:List Nod)).bind fun l14=>a0m n Φ size l a m (q:Int) pl l14)):=fun x q pl g1 g2 g3 g4 g5=>by
    rw[c3C (by simp only[List.length_append,List.length_singleton];omega) (by simp) (by omega)];refine ih (by omega) g5 (by omega) ?_ ?_ (fun h=>by simp at h) (b5F (b5F h7 (a8P hT)) (a8P g4))
    ·simp only[SZ];omega
    ·simp only[List.length_append,List.length_singleton];omega
   refine b45 C (pn1 (by omega) (by omega)) (fun x q pl g1 g2 g3 g4=>?_) (fun x q pl g1 g2=>?_)
   ·simp only[NF];refine c5r C g2 (fun g5 g6=>?_) (fun g5=>?_)
    ·simp only[NF];exact nx x q pl g1 g2 g3 g4 (by omega)
    ·simp only[NF];refine c5r C g2 (fun g7 g8=>?_) (fun g7=>?_)
     ·simp only[NF];exact nx x q pl g1 g2 g3 g4 (by omega)
     ·simp only[NF];exact qn_no C (by omega) g2
   ·simp only[NF];exact qn_no C (by omega) g2
 | 0,_,_,_,_,_,_,_,_,_,_=>by omega
theorem he:∀n,HE l size n
 | 0=>by constructor<;>(intros;omega)
 | n+1=>by
  have hl:=C.hl;have H:=he n;have hn0:∀{r k:Nat},200000+40*(l.length-k)+r<=n+1->199999<=n:=fun h=>by omega
  constructor
  case f_expr =>
   intro pl k hk hn;show S1 (QN l (G 0) k) (a2X n (d9.fs n) l size k pl);have pn1:=fun{pl:Int} {k:Nat} (h1:k<=l.length) (h2:200000+40*(l.length-k)+20<=n+0)=>H.f_level (pl:=pl) (j:=0) h1 (by omega) h2;simp only[Int.natCast_zero]at pn1;unfold a2X;exact one
  case f_unary =>
   intro pl k hk hn;show S1 (QN l (G 0) k) (a2D n (d9.fs n) l size k pl);have pn1:=fun{pl k}=>H.f_unary (pl:=pl) (k:=k);have pn2:=fun{pl k}=>H.f_postfix (pl:=pl) (k:=k);unfold a2D;exact one
  case f_postfix =>
   intro pl k hk hn;show S1 (QN l (G 0) k) (a1E n (d9.fs n) l size k pl);have pn1:=fun{pl k}=>H.f_atom (pl:=pl) (k:=k);have lp1:=fun{k':Nat} {pl:Int} {x:Nod} h1 h2 h3 h4=>c8u C (size:=size) (n:=n) (k0:=k) (Φ:=d9.fs n) (fun g1 g2 g3=>H.f_args g1 g2 (by omega)) n k' pl x h1 h2 (by omega) h3 h4;have fin:=fun q r x=>post_no C (size:=size) (n:=n) (Φ:=d9.fs n) (m:=n) (by omega) q r x;unfold a1E;exact one
  case f_atom =>
   intro pl k hk hn;show S1 (QN l (G 0) k) (a2V n (d9.fs n) l size k pl);have pn1:=fun{pl k}=>H.f_expr (pl:=pl) (k:=k);have pn2:=fun{pl k}=>H.f_closure (pl:=pl) (k:=k);have pn3:=fun{pl k}=>H.f_path (pl:=pl) (k:=k);have pk1:=fun{pl k} h1 h2=>H.f_interpolated (pl:=pl) (k:=k) h1 (Nat.le_of_lt (b6G h1)) h2;have pa1:=fun{pl k m0}=>H.f_args (pl:=pl) (k:=k) (m0:=m0);have lp1:=fun{a:Int} {k':Nat} {pl:Int} {xs:List Nod} h1 h2 h3 h4=>c7A C (size:=size) (n:=n) (a:=a) (k0:=k) (Φ:=d9.fs n) (fun g1 g2=>H.f_expr g1 (by omega)) n k' pl xs h1 h2 (by omega) h3 h4;unfold a2V;exact one
  case f_args =>
   intro pl k m0 hm hk hn;show S1 (QA l (G 6) m0 k) (a2U n (d9.fs n) m0 l size k pl);have lp1:=fun{k':Nat} {pl:Int} h1 h2 h4 (_:True)=>c7z C (size:=size) (n:=n) (k0:=k) (m0:=m0) hm (by omega) (Φ:=d9.fs n) (fun g1 g2=>H.f_expr g1 (by omega)) n k' pl [] m0 h1 h2 (by omega) (List.append_nil _).symm (show szN []+4+4*k<=4*k' by simp only[Q8];omega) all_nil;unfold a2U;exact one
  case f_interpolated =>
   intro pl k h5 hk hn;show S1 (QN l (G 0) k) (a0w n (d9.fs n) l size k pl);unfold a0w;rw[b6L C.hl hk];exact c0W C (size:=size) (n:=n) (k0:=k) (Φ:=d9.fs n) (fun g1 g2=>H.f_expr g1 (by omega)) n k pl [] (Nat.le_refl _) (b6G h5) (by omega) (by simp only[Q8];omega) rfl (fun _=>h5) all_nil
  case f_closure =>
   intro pl k hk hn;show S1 (QN l (G 0) k) (a1A n (d9.fs n) l size k pl);have pl1:=fun{pl k}=>H.f_stmts (pl:=pl) (k:=k);have pt1:=fun{pl:Int} {k:Nat} (h1:k<=l.length) (_:True)=>(ht C (size:=size) n).1 (pl:=pl) h1 (by omega);have pm1:=fun{pl:Int} {k:Nat} {m0:List Nod} (hm:m0.length<=30000) (h1:k<=l.length)=>c2H C (size:=size) (n:=n) (pl:=pl) hm h1 (by omega);unfold a1A;exact one
  case f_path =>
   intro pl k hk hn;show S1 (QN l (G 0) k) (a2Z n (d9.fs n) l size k pl);have pt1:=fun{pl:Int} {k:Nat} (h1:k<=l.length) (_:True)=>(ht C (size:=size) n).2.2 (pl:=pl) h1 (by omega);have lp1:=fun{a pl:Int} {k':Nat} {t:Typ} h1 h2 h3 h4=>c8q C (size:=size) (n:=n) (a:=a) (pl:=pl) (k0:=k) (Φ:=d9.fs n) (fun g1 g2 g3=>H.f_args g1 g2 (by omega)) n k' t h1 h2 (by omega) h3 h4;have fin:=fun a pl q t=>path_no C (size:=size) (n:=n) (a:=a) (pl:=pl) (Φ:=d9.fs n) (m:=n) (by omega) q t;unfold a2Z V3;exact one
  case f_statement =>
   intro pl k hk hn;show S1 (QN l (G 1) k) (a07 n (d9.fs n) l size k pl);have pn1:=fun{pl k}=>H.f_expr (pl:=pl) (k:=k);have pn2:=fun{pl k}=>H.f_block (pl:=pl) (k:=k);have pn3:=fun{pl k}=>H.f_local (pl:=pl) (k:=k);have pn4:=fun{pl k}=>H.f_simple (pl:=pl) (k:=k);have pk2:=fun{pl k} h1 (_:True) h2=>qn_w C (H.f_cond (pl:=pl) (k:=k) h1 h2) (fun _ h=>h.1);have px1:=fun{a pl k}=>H.f_mat (a:=a) (pl:=pl) (k:=k)
   unfold a07;exact one
  case f_block =>
   intro pl k hk hn;show S1 (QN l (G 2) k) (a2x n (d9.fs n) l size k pl);have pl1:=fun{pl k}=>H.f_stmts (pl:=pl) (k:=k);unfold a2x;exact one
  case f_local =>
   intro pl k hk hn;show S1 (QN l (G 1) k) (a2z n (d9.fs n) l size k pl);have pn1:=fun{pl k}=>H.f_expr (pl:=pl) (k:=k);have pt1:=fun{pl:Int} {k:Nat} (h1:k<=l.length) (_:True)=>(ht C (size:=size) n).1 (pl:=pl) h1 (by omega);unfold a2z;exact one
  case f_simple =>
   intro pl k hk hn;show S1 (QN l (G 1) k) (a15 n (d9.fs n) l size k pl);have pn1:=fun{pl k}=>H.f_expr (pl:=pl) (k:=k);unfold a15;exact one
  case f_cond =>
   intro pl k hT hn;have hk:=b1Y hT;show S1 (QN l (fun x=>G 1 x/\x.op=24) k) (a0A n (d9.fs n) l size k pl);have pn1:=fun{pl k}=>H.f_expr (pl:=pl) (k:=k);have pn2:=fun{pl k}=>H.f_block (pl:=pl) (k:=k);have pk2:=fun{pl k} h1 (_:True) h2=>H.f_cond (pl:=pl) (k:=k) h1 h2;unfold a0A;exact one
  case f_level =>
   intro pl k j hk hj hn;show S1 (QN l (G 0) k) (a2y n (d9.fs n) (j:Int) l size k pl);have pn1:=fun{pl k}=>H.f_unary (pl:=pl) (k:=k);unfold a2y;simp only[a9a,NF];rcases Nat.lt_or_ge j 5 with h|h
   ·have e:eqB (j:Int) ((([[[124,124]],[[38,38]],[[61,61],[33,61],[60],[60,61],[62],[62,61]],[[43],[45]],[[42],[47],[37]]]:List (List Str)).length:Nat):Int)=false:=a0i (by simp;omega);rw[e];have pn1:=fun{pl:Int} {k:Nat} (h1:k<=l.length) (h2:200000+40*(l.length-k)+20<=n+(j+1))=>H.f_level (pl:=pl) (j:=j+1) h1 (by omega) h2;have lp1:=fun{k':Nat} {nn pl:Int} {x:Nod} h1 h2 h3 h4=>c4o C (size:=size) (n:=n) (k0:=k) h (Φ:=d9.fs n) (by omega) (fun g1 g2=>H.f_level (j:=j+1) g1 (by omega) (by omega)) n k' nn pl x h1 h2 (by omega) h3 h4;have fin:∀(b q r:Int) (x:Nod),Y6 n (d9.fs n) size (j:Int) l n false b q r x=some (.brk (false,q,r,x)):=fun b q r x=>by
     obtain⟨m,hm⟩:∃m,n=m+1:=⟨n-1,by omega⟩
     rw[show Y6 n (d9.fs n) size (j:Int) l n false b q r x=Y6 n (d9.fs n) size (j:Int) l (m+1) false b q r x by rw[<-hm]];rfl
    simp only[L6 (show j<=1000000000000 by omega)];exact one
   ·obtain rfl:j=5:=by omega
    have e:eqB ((5:Nat):Int) ((([[[124,124]],[[38,38]],[[61,61],[33,61],[60],[60,61],[62],[62,61]],[[43],[45]],[[42],[47],[37]]]:List (List Str)).length:Nat):Int)=true:=a1s (by simp);rw[e];exact one
  case f_stmts =>
   intro pl k hk hn;show S1 (QL l (G 1) [] k) (a0N n (d9.fs n) l size k pl);have lp1:=fun{k':Nat} {pl:Int} {xs:List Nod} h1 h2 h3 h4=>c5q C (size:=size) (n:=n) (k0:=k) (Φ:=d9.fs n) (fun g1 g2=>H.f_statement g1 (by omega)) n k' pl xs h1 h2 (by omega) h3 h4;unfold a0N;exact one
  case f_mat =>
   intro a pl k hk hn;show S1 (QX l k) (a2A n (d9.fs n) a l size k pl);have pn1:=fun{pl k}=>H.f_expr (pl:=pl) (k:=k);have pn2:=fun{pl k}=>H.f_block (pl:=pl) (k:=k);have lp1:=fun{x:Nod} {F:List Nod×Int×Int->Option (List Nod×Bool×Int×Int)} (hx:G 0 x) (hF:∀{k':Nat} {pl:Int} {ys:List Nod},k<=k'->k'<=l.length->x.sz+szN ys+4*k<=4*k'->ys.length<=12000 ->(∀x∈ys,G 5 x)->S1 (QX l k) (F (x::ys,(k':Int),pl))) {k':Nat} {pl:Int} h1 h2 (h4:x.sz+4*k<=4*k')=>c4A C (size:=size) (n:=n) (k0:=k) (x:=x) (F:=F) hx (by omega) (Φ:=d9.fs n) (fun g1 g2=>H.f_block g1 (by omega)) hF n k' pl [] h1 h2 (by omega) (show x.sz+szN []+4*k<=4*k' by simp only[Q8];omega) all_nil;unfold a2A;exact one
end
end Go.Proofs.YtmippldlhnajkaaGreatDoor
namespace Go.Proofs.YtmippldlhnajkaaGreatDoor
open Go Go.Vm Pr
section
variable {s:Str} {a k:Int} {bs gs ps qs ms:List Nod} {t u:Typ} {b:Nod}
theorem db_i (h:s.length<=20000)(_:True):DB ⟨9,s,0,zT,[],[],a⟩:=⟨_,_,rfl,h⟩
theorem dg_i (h:s.length<=20000)(hb:∀y∈bs,DB y):DG ⟨8,s,0,zT,[],bs,a⟩:=⟨_,_,_,rfl,h,hb⟩
theorem dq_1 (h:s.length<=20000)(hg:GT t):DQ ⟨12,s,1,t,[],[],a⟩:=.inl ⟨_,_,_,rfl,hg,h⟩
theorem dq_2 (hg:GT t)(hu:GT u):DQ ⟨12,[],2,t,[u],[],a⟩:=.inr ⟨_,_,_,rfl,hg,hu⟩
theorem df_1 (h:s.length<=20000)(hg:GT t)(h1:∀y∈gs,DG y)(h2:∀y∈ps,G 4 y)(h3:∀y∈qs,DQ y)(h4:G 2 b):DF 1 ⟨7,s,1,t,[],gs ++(ps ++(qs++[b])),a⟩:=DF.mk (ws:=[]) (bs:=[b]) h hg h1 h2 all_nil h3 (a8P h4) (.inl rfl)
theorem df_2 (h:s.length<=20000)(hg:GT t)(h1:∀y∈gs,DG y)(h2:∀y∈ps,G 4 y)(hu:GT u)(h3:∀y∈qs,DQ y)(h4:G 2 b):DF 1 ⟨7,s,1,t,[],gs ++(ps ++((⟨11,[],0,u,[],[],k⟩:Nod) ::(qs++[b]))),a⟩:=DF.mk (ws:=[⟨11,[],0,u,[],[],k⟩]) (bs:=[b]) h hg h1 h2 (a8P ⟨_,_,rfl,hu⟩) h3 (a8P h4) (.inl rfl)
theorem df_3 (h:s.length<=20000)(hg:GT t)(h1:∀y∈gs,DG y)(h2:∀y∈ps,G 4 y)(h3:∀y∈qs,DQ y):DF 0 ⟨7,s,0,t,[],gs ++(ps++qs),a⟩:=by
 have h:=DF.mk (k:=0) (ws:=[]) (bs:=[]) (a:=a) h hg h1 h2 all_nil h3 all_nil (.inr ⟨rfl,rfl⟩);rwa [List.append_nil]at h
theorem df_4 (h:s.length<=20000)(hg:GT t)(h1:∀y∈gs,DG y)(h2:∀y∈ps,G 4 y)(hu:GT u)(h3:∀y∈qs,DQ y):DF 0 ⟨7,s,0,t,[],gs ++(ps ++((⟨11,[],0,u,[],[],k⟩:Nod)::qs)),a⟩:=by
 have h:=DF.mk (k:=0) (ws:=[⟨11,[],0,u,[],[],k⟩]) (bs:=[]) (a:=a) h hg h1 h2 (a8P ⟨_,_,rfl,hu⟩) h3 all_nil (.inr ⟨rfl,rfl⟩);rwa [List.append_nil]at h
end
section
variable {l:List Tok} {size:Int} (C:Cx l)
include C
theorem c0A {n k0:Nat}{pl:Int}{m0:List Nod}(hm:m0.length<=60000):∀(m k:Nat) (xs zs:List Nod),k0<=k->k<=l.length->l.length+1<m+k->zs=m0++xs->szN xs+4*k0<=4*k ->(∀x∈xs,DB x)->S1 (QM l DB m0 k0) (bS (a1z n size l pl m zs true (k:Int)) (fun(a7A,b7c)=>some ((a7A,true,b7c))) some)
 | m+2,k,xs,_,h1,h2,h3,rfl,h4,h5=>by
  have hl:=C.hl;have hx:=G5 xs;have hF:=fun{s a}=>@db_i s a;have ih:=fun{k:Nat} {xs zs:List Nod} h1 h2 h3 h4 h5 h6=>c0A (n:=n) (k0:=k0) (pl:=pl) (m0:=m0) hm (m+1) k xs zs h1 h2 h3 h4 h5 h6;have fin:∀(zs:List Nod) (q:Int),a1z n size l pl (m+1) zs false q=some (.brk (zs,q)):=fun _ _=>rfl;rw[a1z.eq_2];exact one
 | 0,_,_,_,_,_,_,_,_,_=>by omega
 | 1,_,_,_,_,_,_,_,_,_=>by omega
theorem c7B {n k:Nat}{pl:Int}(hk:k<=l.length)(hn:200000<=n):S1 (QM l DB [] k) (a1J n l size (k:Int) pl):=by
 have hl:=C.hl;have lp1:=fun{k':Nat} h1 h2 (_:True) (_:True)=>c0A C (size:=size) (n:=n) (k0:=k) (pl:=pl) (m0:=[]) (by simp) n k' [] [] h1 h2 (by omega) rfl (by simp only[Q8];omega) all_nil;unfold a1J;exact one
theorem b7p {n k0:Nat}{pl:Int}{m0:List Nod}(hm:m0.length<=60000)(hn:200000<=n):∀(m k:Nat) (xs zs:List Nod),k0<=k->k<=l.length->l.length+1<m+k->zs=m0++xs->szN xs+4*k0<=4*k ->(∀x∈xs,DG x)->S1 (QM l DG m0 k0) (bS (a05 n size l pl m zs true (k:Int)) (fun(b7M,b4W)=>(o8 [62] l size b4W pl).bind fun(r18,at19)=>some ((b7M,r18,at19))) some)
 | m+2,k,xs,_,h1,h2,h3,rfl,h4,h5=>by
  have hl:=C.hl;have hx:=G5 xs;have hF:=fun{s a bs}=>@dg_i s a bs;have pm1:=fun{pl:Int} {k:Nat} (hk:k<=l.length) (_:True)=>c7B C (size:=size) (n:=n) (pl:=pl) hk hn;have ih:=fun{k:Nat} {xs zs:List Nod} h1 h2 h3 h4 h5 h6=>b7p (n:=n) (k0:=k0) (pl:=pl) (m0:=m0) hm hn (m+1) k xs zs h1 h2 h3 h4 h5 h6;have fin:∀(zs:List Nod) (q:Int),a05 n size l pl (m+1) zs false q=some (.brk (zs,q)):=fun _ _=>rfl;rw[a05.eq_2];exact one
 | 0,_,_,_,_,_,_,_,_,_=>by omega
 | 1,_,_,_,_,_,_,_,_,_=>by omega
theorem b4i {n k:Nat}{pl:Int}(hk:k<=l.length)(hn:200000<=n):S1 (QM l DG [] k) (a0u n [] l size (k:Int) pl):=by
 have hl:=C.hl;have lp1:=fun{k':Nat} h1 h2 (_:True) (_:True)=>b7p C (size:=size) (n:=n) (k0:=k) (pl:=pl) (m0:=[]) (by simp) hn n k' [] [] h1 h2 (by omega) rfl (by simp only[Q8];omega) all_nil;unfold a0u;exact one
theorem c5A {n k0:Nat}{pl:Int}{m0:List Nod}(hm:m0.length<=60000)(hn:200000<=n):∀(m k:Nat) (xs zs:List Nod),k0<=k->k<=l.length->l.length+1<m+k->zs=m0++xs->szN xs+4*k0<=4*k ->(∀x∈xs,DQ x)->S1 (QM l DQ m0 k0) (bS (a19 n size l pl m zs true (k:Int)) (fun(b8Z,b3m)=>some ((b8Z,true,b3m))) some)
 | m+2,k,xs,_,h1,h2,h3,rfl,h4,h5=>by
  have hl:=C.hl;have hx:=G5 xs;have hF:=fun{s a t}=>@dq_1 s a t;have hO:=fun{a t u}=>@dq_2 a t u;have pt1:=fun{pl:Int} {k:Nat} (h1:k<=l.length) (_:True)=>(ht C (size:=size) n).1 (pl:=pl) h1 (by omega);have ih:=fun{k:Nat} {xs zs:List Nod} h1 h2 h3 h4 h5 h6=>c5A (n:=n) (k0:=k0) (pl:=pl) (m0:=m0) hm hn (m+1) k xs zs h1 h2 h3 h4 h5 h6;have fin:∀(zs:List Nod) (q:Int),a19 n size l pl (m+1) zs false q=some (.brk (zs,q)):=fun _ _=>rfl;rw[a19.eq_2];exact one
 | 0,_,_,_,_,_,_,_,_,_=>by omega
 | 1,_,_,_,_,_,_,_,_,_=>by omega
theorem c7r {n k:Nat}{pl:Int}{m0:List Nod}(hm:m0.length<=60000)(hk:k<=l.length)(hn:200000<=n):S1 (QM l DQ m0 k) (a2i n m0 l size (k:Int) pl):=by
 have hl:=C.hl;have lp1:=fun{k':Nat} h1 h2 (_:True) (_:True)=>c5A C (size:=size) (n:=n) (k0:=k) (pl:=pl) (m0:=m0) hm hn n k' [] m0 h1 h2 (by omega) (List.append_nil _).symm (by simp only[Q8];omega) all_nil;unfold a2i;exact one
theorem fun1 {n k:Nat}{pl:Int}(hk:k<=l.length)(hn:1000000<=n):S1 (QN l (DF 1) k) (V5 n true l size (k:Int) pl):=by
 have hl:=C.hl;have pt1:=fun{pl:Int} {k:Nat} (h1:k<=l.length) (_:True)=>(ht C (size:=size) n).1 (pl:=pl) h1 (by omega);have pn1:=fun{pl:Int} {k:Nat} (h1:k<=l.length) (_:True)=>(he C (size:=size) n).f_block (pl:=pl) h1 (by omega);have pm1:=fun{pl:Int} {k:Nat} (h1:k<=l.length) (_:True)=>b4i C (size:=size) (n:=n) (pl:=pl) h1 (by omega);have pm2:=fun{pl:Int} {k:Nat} {m0:List Nod} (hm:m0.length<=30000) (h1:k<=l.length)=>c2H C (size:=size) (n:=n) (pl:=pl) hm h1 (by omega);have pm3:=fun{pl:Int} {k:Nat} {m0:List Nod} (hm:m0.length<=60000) (h1:k<=l.length)=>c7r C (size:=size) (n:=n) (pl:=pl) hm h1 (by omega);have lp2:=fun{s a gs ps qs t b}=>@df_1 s a gs ps qs t b;have lp1:=fun{s a k gs ps qs t u b}=>@df_2 s a k gs ps qs t u b;unfold V5;exact one
theorem fun0 {n k:Nat}{pl:Int}(hk:k<=l.length)(hn:1000000<=n):S1 (QN l (DF 0) k) (V5 n false l size (k:Int) pl):=by
 have hl:=C.hl;have pt1:=fun{pl:Int} {k:Nat} (h1:k<=l.length) (_:True)=>(ht C (size:=size) n).1 (pl:=pl) h1 (by omega);have pm1:=fun{pl:Int} {k:Nat} (h1:k<=l.length) (_:True)=>b4i C (size:=size) (n:=n) (pl:=pl) h1 (by omega);have pm2:=fun{pl:Int} {k:Nat} {m0:List Nod} (hm:m0.length<=30000) (h1:k<=l.length)=>c2H C (size:=size) (n:=n) (pl:=pl) hm h1 (by omega);have pm3:=fun{pl:Int} {k:Nat} {m0:List Nod} (hm:m0.length<=60000) (h1:k<=l.length)=>c7r C (size:=size) (n:=n) (pl:=pl) hm h1 (by omega);have lp2:=fun{s a gs ps qs t}=>@df_3 s a gs ps qs t;have lp1:=fun{s a k gs ps qs t u}=>@df_4 s a k gs ps qs t u;unfold V5;exact one
end
end Go.Proofs.YtmippldlhnajkaaGreatDoor
