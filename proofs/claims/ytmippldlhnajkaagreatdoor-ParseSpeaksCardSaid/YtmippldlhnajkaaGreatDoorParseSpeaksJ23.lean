/- What the functions under ParseSpeaks compute, step by step, as functions in Lean: texts that were built one by one, joined. -/
import Derived.Test.YtmippldlhnajkaaGreatDoorParseSpeaksJ22
set_option maxRecDepth 100000
set_option maxHeartbeats 20000000
set_option linter.unusedSimpArgs false
set_option linter.unusedVariables false
set_option linter.unusedSectionVars false
namespace Go.Proofs.YtmippldlhnajkaaGreatDoor
open Go Go.Vm
section
variable {l:List Tok} {size:Int} (C:Cx l)
include C
theorem c3e {n k0:Nat}{Φ:d9}(pa1:∀{pl:Int} {k:Nat} {m0:List Nod},m0.length<=30000->k<=l.length->k0<k->S1 (QA l (G 6) m0 k) (Φ.J8 m0 l size k pl)):∀(m k:Nat) (pl:Int) (x:Nod),k0<k->k<=l.length->l.length+1<m+k->x.sz+4*k0<=4*k->G 0 x->S1 (QN l (G 0) k0) (bS (Q6 n Φ size l m true (k:Int) pl x) (fun(b9B,b6n,a6N,n555)=>some ((n555,b9B,b6n,a6N))) some)
 | m+2,k,pl,x,h1,h2,h3,h4,h5=>by
  have hl:=C.hl
  have hz:=x.a7y
  have ih:=fun{k:Nat} {pl:Int} {x:Nod}=>c3e (k0:=k0) (n:=n) (Φ:=Φ) pa1 (m+1) k pl x
  have fin:∀(q r:Int) (x:Nod),Q6 n Φ size l (m+1) false q r x=some (.brk (false,q,r,x)):=fun _ _ _=>rfl
  rw[Q6.eq_2]
  exact one
 | 0,_,_,_,_,_,_,_,_=>by omega
 | 1,_,_,_,_,_,_,_,_=>by omega
theorem post_no {n m:Nat}{Φ:d9}(hm:1<=m)(q r:Int)(x:Nod):Q6 n Φ size l m false q r x=some (.brk (false,q,r,x)):=by
 obtain⟨m,rfl⟩:∃j,m=j+1:=⟨m-1,by omega⟩
 rfl
theorem c2o {n k0:Nat}{a:Int}{Φ:d9}(pn1:∀{pl:Int} {k:Nat},k<=l.length->k0<k->S1 (QN l (G 0) k) (Φ.E8 l size k pl)):∀(m k:Nat) (pl:Int) (xs:List Nod),k0<k->k<=l.length->l.length+1<m+k->szN xs+4+4*k0<=4*k ->(∀x∈xs,G 0 x)->S1 (QN l (G 0) k0) (bS (a0Q n Φ size l a m true (k:Int) pl xs) (fun(b8N,a6O,l562)=>(o8 [93] l size b8N a6O).bind fun(r47,at48)=>some (((⟨67,[],0,(⟨0,[],0,[]⟩:Typ),[],l562,a⟩:Nod),r47,at48,a6O))) some)
 | m+2,k,pl,xs,h1,h2,h3,h4,h5=>by
  have hl:=C.hl
  have hx:=V3 xs
  have ih:=fun{k:Nat} {pl:Int} {xs:List Nod}=>c2o (k0:=k0) (n:=n) (a:=a) (Φ:=Φ) pn1 (m+1) k pl xs
  have fin:∀(q r:Int) (zs:List Nod),a0Q n Φ size l a (m+1) false q r zs=some (.brk (q,r,zs)):=fun _ _ _=>rfl
  rw[a0Q.eq_2]
  exact one
 | 0,_,_,_,_,_,_,_,_=>by omega
 | 1,_,_,_,_,_,_,_,_=>by omega
theorem c2n {n k0:Nat}{m0:List Nod}(hm:m0.length<=30000)(hn:200000<=n){Φ:d9}(pn1:∀{pl:Int} {k:Nat},k<=l.length->k0<k->S1 (QN l (G 0) k) (Φ.E8 l size k pl)):∀(m k:Nat) (pl:Int) (xs zs:List Nod),k0<k->k<=l.length->l.length+1<m+k->zs=m0++xs->szN xs+4+4*k0<=4*k ->(∀x∈xs,G 6 x)->S1 (QA l (G 6) m0 k0) (bS (a07 n Φ size l m zs true (k:Int) pl) (fun(l560,at561,b0o)=>(o8 [41] l size at561 b0o).bind fun(r23,at24)=>some ((l560,r23,at24,b0o,l560))) some)
 | m+2,k,pl,xs,_,h1,h2,h3,rfl,h4,h5=>by
  have hl:=C.hl
  have hx:=V3 xs
  have ih:=fun{k:Nat} {pl:Int} {xs zs:List Nod} h1 h2 h3 h4 h5 h6=>c2n (k0:=k0) (n:=n) (m0:=m0) (Φ:=Φ) hm hn pn1 (m+1) k pl xs zs h1 h2 h3 h4 h5 h6
  have pp1:=fun{pl:Int} {k:Nat} (h1:k<=l.length) (_:True)=>lent1 C (size:=size) (n:=n) (pl:=pl) h1 (by omega)
  have fin:∀(zs:List Nod) (q r:Int),a07 n Φ size l (m+1) zs false q r=some (.brk (zs,q,r)):=fun _ _ _=>rfl
  rw[a07.eq_2]
  exact one
 | 0,_,_,_,_,_,_,_,_,_,_=>by omega
 | 1,_,_,_,_,_,_,_,_,_,_=>by omega
theorem c0d {n k0:Nat}{Φ:d9}(pn1:∀{pl:Int} {k:Nat},k<=l.length->k0<=k->S1 (QN l (G 1) k) (Φ.L6 l size k pl)):∀(m k:Nat) (pl:Int) (xs:List Nod),k0<=k->k<=l.length->l.length+1<m+k->szN xs+4*k0<=4*k ->(∀x∈xs,G 1 x)->S1 (QL l (G 1) [] k0) (bS (a0F n Φ size l m xs (k:Int) pl) (fun(l529,b8L,b5B)=>some ((l529,true,b8L,b5B))) some)
 | m+1,k,pl,xs,h1,h2,h3,h4,h5=>by
  have hl:=C.hl
  have hx:=V3 xs
  have ih:=fun{k:Nat} {pl:Int} {xs:List Nod}=>c0d (k0:=k0) (n:=n) (Φ:=Φ) pn1 m k pl xs
  rw[a0F.eq_2]
  exact one
 | 0,_,_,_,_,_,_,_,_=>by omega
theorem b9y {n k0:Nat}{x:Nod}{F:List Nod×Int×Int->Option (List Nod×Bool×Int×Int)}(hx:G 0 x)(hn:200000<=n){Φ:d9}(pn2:∀{pl:Int} {k:Nat},k<=l.length->k0<k->S1 (QN l (G 2) k) (Φ.I5 l size k pl))(hF:∀{k:Nat} {pl:Int} {ys:List Nod},k0<=k->k<=l.length->x.sz+szN ys+4*k0<=4*k->ys.length<=12000 ->(∀x∈ys,G 5 x)->S1 (QX l k0) (F (x::ys,(k:Int),pl))):∀(m k:Nat) (pl:Int) (ys:List Nod),k0<=k->k<=l.length->l.length+1<m+k->x.sz+szN ys+4*k0<=4*k ->(∀x∈ys,G 5 x)->S1 (QX l k0) (bS (a15 n Φ size l m (x::ys) (k:Int) pl) F some)
 | m+1,k,pl,ys,h1,h2,h3,h4,h5=>by
  have hl:=C.hl
  have hy:=V3 ys
  have hz:=x.a7y
  have hc:(x::ys).length<=100000:=by simp only[List.length_cons];omega
  have ih:=fun{k:Nat} {pl:Int} {ys:List Nod}=>b9y (k0:=k0) (n:=n) (x:=x) (Φ:=Φ) hx hn pn2 hF m k pl ys
  have pp1:=fun{pl:Int} {k:Nat} (h1:k<=l.length) (_:True)=>pat1 C (size:=size) n (pl:=pl) h1 (by omega)
  rw[a15.eq_2]
  simp only[K3]
  exact one
 | 0,_,_,_,_,_,_,_,_=>by omega
theorem c3b {n k0:Nat}{a pl:Int}{Φ:d9}(pa1:∀{pl:Int} {k:Nat} {m0:List Nod},m0.length<=30000->k<=l.length->k0<k->S1 (QA l (G 6) m0 k) (Φ.J8 m0 l size k pl)):∀(m k:Nat) (t:Typ),k0<k->k<=l.length->l.length+1<m+k->t.sz+k0<=k->GT t->S1 (QN l (G 0) k0) (bS (a1c n Φ size l pl a m true (k:Int) t) (fun b4N=>some (((⟨0,[],0,(⟨0,[],0,[]⟩:Typ),[],[],a⟩:Nod),false,b4N,pl))) some)
 | m+1,k,t,h1,h2,h3,h4,h5=>by
  have hl:=C.hl
  have hz:=t.a7y
  have ih:=fun{k:Nat} {t:Typ}=>c3b (k0:=k0) (n:=n) (a:=a) (pl:=pl) (Φ:=Φ) pa1 m k t
  rw[a1c.eq_2]
  exact one
 | 0,_,_,_,_,_,_,_=>by omega
theorem path_no {n m:Nat}{a pl:Int}{Φ:d9}(hm:1<=m)(q:Int)(t:Typ):a1c n Φ size l pl a m false q t=some (.brk q):=by
 obtain⟨m,rfl⟩:∃j,m=j+1:=⟨m-1,by omega⟩
 rfl
theorem b6G {n k0:Nat}{a:Int}{Φ:d9}(pn1:∀{pl:Int} {k:Nat},k<=l.length->k0<k->S1 (QN l (G 0) k) (Φ.E8 l size k pl)):∀(m k:Nat) (pl:Int) (xs:List Nod),k0<=k->k<l.length->l.length+1<m+k->szN xs+4*k0<=4*k->xs.length%2=0 ->(xs=[]->isK l 5 k=true) ->(∀x∈xs,G 0 x)->S1 (QN l (G 0) k0) (W9 n Φ size l a m (k:Int) pl xs)
 | m+1,k,pl,xs,h1,h2,h3,h4,h5,h6,h7=>by
  have hl:=C.hl
  have hx:=V3 xs
  have ih:=fun{k:Nat} {pl:Int} {xs:List Nod}=>b6G (k0:=k0) (n:=n) (a:=a) (Φ:=Φ) pn1 m k pl xs
  rw[W9.eq_2,Y3 h2]
  have ht:l[k].text=a8B l k:=by unfold a8B;rw[List.getElem?_eq_getElem h2]
  have hk:eqB l[k].kind 7=isK l 7 k:=by unfold isK;rw[List.getElem?_eq_getElem h2]
  have hs:(a8B l k).length<=20000:=C.txt k
  simp only[Option.bind_some,hk,ht]
  rw[app_n (by omega) (by simp) (by omega)]
  simp (disch:=omega) only[Option.bind_some,P5]
  have hT:G 0 ⟨52,a8B l k,0,zT,[],[],l[k].at_⟩:=.text hs
  cases hb:isK l 7 k with
  | true =>
   have hne:xs ≠ []:=fun h=>by
    have:=c1g C (h6 h) (show(5:Int)≠7 by decide)
    rw[this]at hb;cases hb
   have hlen:0<xs.length:=List.length_pos_iff.2 hne
   refine qn_ok C (by omega) (by omega) ?_ (.interp (b4k h7 (b4l hT)) ?_ ?_)
   ·simp only[SZ];omega
   ·simp only[List.length_append,List.length_singleton];omega
   ·simp only[List.length_append,List.length_singleton];omega
  | false =>
   have nx:∀(x:Nod) (q:Nat) (pl:Int),k+1<q->q<=l.length->x.sz+4*(k+1)<=4*q->G 0 x->q<l.length->S1 (QN l (G 0) k0) (((app 144 (xs++[(⟨52,a8B l k,0,(⟨0,[],0,[]⟩:Typ),[],[],l[k].at_⟩:Nod)]) ([x]:List Nod)).bind fun l14=>W9 n Φ size l a m (q:Int) pl l14)):=fun x q pl g1 g2 g3 g4 g5=>by
    rw[app_n (by simp only[List.length_append,List.length_singleton];omega) (by simp) (by omega)]
    refine ih (by omega) g5 (by omega) ?_ ?_ (fun h=>by simp at h) (b4k (b4k h7 (b4l hT)) (b4l g4))
    ·simp only[SZ];omega
    ·simp only[List.length_append,List.length_singleton];omega
   refine b1A C (pn1 (by omega) (by omega)) (fun x q pl g1 g2 g3 g4=>?_) (fun x q pl g1 g2=>?_)
   ·simp only[NF]
    refine c0e C g2 (fun g5 g6=>?_) (fun g5=>?_)
    ·simp only[NF]
     exact nx x q pl g1 g2 g3 g4 (by omega)
    ·simp only[NF]
     refine c0e C g2 (fun g7 g8=>?_) (fun g7=>?_)
     ·simp only[NF]
      exact nx x q pl g1 g2 g3 g4 (by omega)
     ·simp only[NF]
      exact qn_no C (by omega) g2
   ·simp only[NF]
    exact qn_no C (by omega) g2
 | 0,_,_,_,_,_,_,_,_,_,_=>by omega
theorem he:∀n,HE l size n
 | 0=>by constructor<;>(intros;omega)
 | n+1=>by
  have hl:=C.hl
  have H:=he n
  have hn0:∀{r k:Nat},200000+40*(l.length-k)+r<=n+1->199999<=n:=fun h=>by omega
  constructor
  case f_expr =>
   intro pl k hk hn
   show S1 (QN l (G 0) k) (a1z n (d9.fs n) l size k pl)
   have pn1:=fun{pl:Int} {k:Nat} (h1:k<=l.length) (h2:200000+40*(l.length-k)+20<=n+0)=>H.f_level (pl:=pl) (j:=0) h1 (by omega) h2
   simp only[Int.natCast_zero]at pn1
   unfold a1z
   exact one
  case f_unary =>
   intro pl k hk hn
   show S1 (QN l (G 0) k) (a1e n (d9.fs n) l size k pl)
   have pn1:=fun{pl k}=>H.f_unary (pl:=pl) (k:=k)
   have pn2:=fun{pl k}=>H.f_postfix (pl:=pl) (k:=k)
   unfold a1e
   exact one
  case f_postfix =>
   intro pl k hk hn
   show S1 (QN l (G 0) k) (a0E n (d9.fs n) l size k pl)
   have pn1:=fun{pl k}=>H.f_atom (pl:=pl) (k:=k)
   have lp1:=fun{k':Nat} {pl:Int} {x:Nod} h1 h2 h3 h4=>c3e C (size:=size) (n:=n) (k0:=k) (Φ:=d9.fs n) (fun g1 g2 g3=>H.f_args g1 g2 (by omega)) n k' pl x h1 h2 (by omega) h3 h4
   have fin:=fun q r x=>post_no C (size:=size) (n:=n) (Φ:=d9.fs n) (m:=n) (by omega) q r x
   unfold a0E
   exact one
  case f_atom =>
   intro pl k hk hn
   show S1 (QN l (G 0) k) (a1x n (d9.fs n) l size k pl)
   have pn1:=fun{pl k}=>H.f_expr (pl:=pl) (k:=k)
   have pn2:=fun{pl k}=>H.f_closure (pl:=pl) (k:=k)
   have pn3:=fun{pl k}=>H.f_path (pl:=pl) (k:=k)
   have pk1:=fun{pl k} h1 h2=>H.f_interpolated (pl:=pl) (k:=k) h1 (Nat.le_of_lt (b3c h1)) h2
   have pa1:=fun{pl k m0}=>H.f_args (pl:=pl) (k:=k) (m0:=m0)
   have lp1:=fun{a:Int} {k':Nat} {pl:Int} {xs:List Nod} h1 h2 h3 h4=>c2o C (size:=size) (n:=n) (a:=a) (k0:=k) (Φ:=d9.fs n) (fun g1 g2=>H.f_expr g1 (by omega)) n k' pl xs h1 h2 (by omega) h3 h4
   unfold a1x
   exact one
  case f_args =>
   intro pl k m0 hm hk hn
   show S1 (QA l (G 6) m0 k) (a1w n (d9.fs n) m0 l size k pl)
   have lp1:=fun{k':Nat} {pl:Int} h1 h2 h4 (_:True)=>c2n C (size:=size) (n:=n) (k0:=k) (m0:=m0) hm (by omega) (Φ:=d9.fs n) (fun g1 g2=>H.f_expr g1 (by omega)) n k' pl [] m0 h1 h2 (by omega) (List.append_nil _).symm (show szN []+4+4*k<=4*k' by simp only[b4C];omega) all_nil
   unfold a1w
   exact one
  case f_interpolated =>
   intro pl k h5 hk hn
   show S1 (QN l (G 0) k) (X6 n (d9.fs n) l size k pl)
   unfold X6
   rw[a6x C.hl hk]
   exact b6G C (size:=size) (n:=n) (k0:=k) (Φ:=d9.fs n) (fun g1 g2=>H.f_expr g1 (by omega)) n k pl [] (Nat.le_refl _) (b3c h5) (by omega) (by simp only[b4C];omega) rfl (fun _=>h5) all_nil
  case f_closure =>
   intro pl k hk hn
   show S1 (QN l (G 0) k) (a0A n (d9.fs n) l size k pl)
   have pl1:=fun{pl k}=>H.f_stmts (pl:=pl) (k:=k)
   have pt1:=fun{pl:Int} {k:Nat} (h1:k<=l.length) (_:True)=>(ht C (size:=size) n).1 (pl:=pl) h1 (by omega)
   have pm1:=fun{pl:Int} {k:Nat} {m0:List Nod} (hm:m0.length<=30000) (h1:k<=l.length)=>params1 C (size:=size) (n:=n) (pl:=pl) hm h1 (by omega)
   unfold a0A
   exact one
  case f_path =>
   intro pl k hk hn
   show S1 (QN l (G 0) k) (a1B n (d9.fs n) l size k pl)
   have pt1:=fun{pl:Int} {k:Nat} (h1:k<=l.length) (_:True)=>(ht C (size:=size) n).2.2 (pl:=pl) h1 (by omega)
   have lp1:=fun{a pl:Int} {k':Nat} {t:Typ} h1 h2 h3 h4=>c3b C (size:=size) (n:=n) (a:=a) (pl:=pl) (k0:=k) (Φ:=d9.fs n) (fun g1 g2 g3=>H.f_args g1 g2 (by omega)) n k' t h1 h2 (by omega) h3 h4
   have fin:=fun a pl q t=>path_no C (size:=size) (n:=n) (a:=a) (pl:=pl) (Φ:=d9.fs n) (m:=n) (by omega) q t
   unfold a1B P7
   exact one
  case f_statement =>
   intro pl k hk hn
   show S1 (QN l (G 1) k) (a0d n (d9.fs n) l size k pl)
   have pn1:=fun{pl k}=>H.f_expr (pl:=pl) (k:=k)
   have pn2:=fun{pl k}=>H.f_block (pl:=pl) (k:=k)
   have pn3:=fun{pl k}=>H.f_local (pl:=pl) (k:=k)
   have pn4:=fun{pl k}=>H.f_simple (pl:=pl) (k:=k)
   have pk2:=fun{pl k} h1 (_:True) h2=>qn_w C (H.f_cond (pl:=pl) (k:=k) h1 h2) (fun _ h=>h.1)
   have px1:=fun{a pl k}=>H.f_mat (a:=a) (pl:=pl) (k:=k)
   unfold a0d
   exact one
  case f_block =>
   intro pl k hk hn
   show S1 (QN l (G 2) k) (a08 n (d9.fs n) l size k pl)
   have pl1:=fun{pl k}=>H.f_stmts (pl:=pl) (k:=k)
   unfold a08
   exact one
  case f_local =>
   intro pl k hk hn
   show S1 (QN l (G 1) k) (a1a n (d9.fs n) l size k pl)
   have pn1:=fun{pl k}=>H.f_expr (pl:=pl) (k:=k)
   have pt1:=fun{pl:Int} {k:Nat} (h1:k<=l.length) (_:True)=>(ht C (size:=size) n).1 (pl:=pl) h1 (by omega)
   unfold a1a
   exact one
  case f_simple =>
   intro pl k hk hn
   show S1 (QN l (G 1) k) (a0R n (d9.fs n) l size k pl)
   have pn1:=fun{pl k}=>H.f_expr (pl:=pl) (k:=k)
   unfold a0R
   exact one
  case f_cond =>
   intro pl k hT hn
   have hk:=a8J hT
   show S1 (QN l (fun x=>G 1 x/\x.op=24) k) (X9 n (d9.fs n) l size k pl)
   have pn1:=fun{pl k}=>H.f_expr (pl:=pl) (k:=k)
   have pn2:=fun{pl k}=>H.f_block (pl:=pl) (k:=k)
   have pk2:=fun{pl k} h1 (_:True) h2=>H.f_cond (pl:=pl) (k:=k) h1 h2
   unfold X9
   exact one
  case f_level =>
   intro pl k j hk hj hn
   show S1 (QN l (G 0) k) (a09 n (d9.fs n) (j:Int) l size k pl)
   have pn1:=fun{pl k}=>H.f_unary (pl:=pl) (k:=k)
   unfold a09
   simp only[a6m,NF]
   rcases Nat.lt_or_ge j 5 with h|h
   ·have e:eqB (j:Int) ((([[[124,124]],[[38,38]],[[61,61],[33,61],[60],[60,61],[62],[62,61]],[[43],[45]],[[42],[47],[37]]]:List (List Str)).length:Nat):Int)=false:=a0J (by simp;omega)
    rw[e]
    have pn1:=fun{pl:Int} {k:Nat} (h1:k<=l.length) (h2:200000+40*(l.length-k)+20<=n+(j+1))=>H.f_level (pl:=pl) (j:=j+1) h1 (by omega) h2
    have lp1:=fun{k':Nat} {nn pl:Int} {x:Nod} h1 h2 h3 h4=>b9k C (size:=size) (n:=n) (k0:=k) h (Φ:=d9.fs n) (by omega) (fun g1 g2=>H.f_level (j:=j+1) g1 (by omega) (by omega)) n k' nn pl x h1 h2 (by omega) h3 h4
    have fin:∀(b q r:Int) (x:Nod),U2 n (d9.fs n) size (j:Int) l n false b q r x=some (.brk (false,q,r,x)):=fun b q r x=>by
     obtain⟨m,hm⟩:∃m,n=m+1:=⟨n-1,by omega⟩
     rw[show U2 n (d9.fs n) size (j:Int) l n false b q r x=U2 n (d9.fs n) size (j:Int) l (m+1) false b q r x by rw[<-hm]]
     rfl
    simp only[P5 (show j<=1000000000000 by omega)]
    exact one
   ·obtain rfl:j=5:=by omega
    have e:eqB ((5:Nat):Int) ((([[[124,124]],[[38,38]],[[61,61],[33,61],[60],[60,61],[62],[62,61]],[[43],[45]],[[42],[47],[37]]]:List (List Str)).length:Nat):Int)=true:=a3T (by simp)
    rw[e]
    exact one
  case f_stmts =>
   intro pl k hk hn
   show S1 (QL l (G 1) [] k) (Y6 n (d9.fs n) l size k pl)
   have lp1:=fun{k':Nat} {pl:Int} {xs:List Nod} h1 h2 h3 h4=>c0d C (size:=size) (n:=n) (k0:=k) (Φ:=d9.fs n) (fun g1 g2=>H.f_statement g1 (by omega)) n k' pl xs h1 h2 (by omega) h3 h4
   unfold Y6
   exact one
  case f_mat =>
   intro a pl k hk hn
   show S1 (QX l k) (a1b n (d9.fs n) a l size k pl)
   have pn1:=fun{pl k}=>H.f_expr (pl:=pl) (k:=k)
   have pn2:=fun{pl k}=>H.f_block (pl:=pl) (k:=k)
   have lp1:=fun{x:Nod} {F:List Nod×Int×Int->Option (List Nod×Bool×Int×Int)} (hx:G 0 x) (hF:∀{k':Nat} {pl:Int} {ys:List Nod},k<=k'->k'<=l.length->x.sz+szN ys+4*k<=4*k'->ys.length<=12000 ->(∀x∈ys,G 5 x)->S1 (QX l k) (F (x::ys,(k':Int),pl))) {k':Nat} {pl:Int} h1 h2 (h4:x.sz+4*k<=4*k')=>b9y C (size:=size) (n:=n) (k0:=k) (x:=x) (F:=F) hx (by omega) (Φ:=d9.fs n) (fun g1 g2=>H.f_block g1 (by omega)) hF n k' pl [] h1 h2 (by omega) (show x.sz+szN []+4*k<=4*k' by simp only[b4C];omega) all_nil
   unfold a1b
   exact one
end
end Go.Proofs.YtmippldlhnajkaaGreatDoor
namespace Go.Proofs.YtmippldlhnajkaaGreatDoor.Sc
open Go Go.Vm
def tlen:PR->Nat
 | .fin t _=>t.length
 | .more t _=>t.length
 | .err _ _=>0
theorem b0l (s:List UInt8)(q ins:Nat):∀(f i:Nat) (text:List UInt8),tlen (a6a s q ins f i text)<=text.length+(s.length-i)
 | 0,i,text=>Nat.zero_le _
 | f+1,i,text=>by
  have h1:=b0l s q ins f (i+1) (text++[s.getD i 0])
  have h2:=b0l s q ins f (i+2) (text++[10])
  have h3:=b0l s q ins f (i+2) (text++[9])
  have h4:=b0l s q ins f (i+2) (text++[s.getD (i+1) 0])
  simp only[List.length_append,List.length_singleton]at h1 h2 h3 h4
  rcases Nat.lt_or_ge i s.length with hi|hi
  ·simp only[a6a]
   repeat' split
   all_goals first|exact Nat.zero_le _ |(simp only[tlen];omega)|omega
  ·have:(decide (i<s.length)&&decide (32 <=(s.getD i 0).toNat))=false:=by rw[Bool.and_eq_false_iff,decide_eq_false_iff_not];exact .inl (by omega)
   simp only[a6a,this]
   exact Nat.zero_le _
theorem c2Q {s:List UInt8}{toks:List Tok}{st:List (Nat×Int)}{q j ins:Nat}{a b:Int}{y:MS}(h:a1g toks st q j a b (part s q ins (j+1) [])=.go y) :
  ∃t:Tok,y.toks=toks++[t]/\t.t.length<=s.length:=by
 have hp:=b0l s q ins (s.length-(j+1)) (j+1) []
 simp only[List.length_nil,Nat.zero_add]at hp
 have hp:tlen (part s q ins (j+1) [])<=_:=hp
 cases hq:part s q ins (j+1) []with
 | err c a=>rw[hq]at h;cases h
 | fin t e =>
  rw[hq]at h hp
  simp only[a1g]at h
  simp only[tlen]at hp
  cases h
  exact⟨_,rfl,show t.length<=_ by omega⟩
 | more t e =>
  rw[hq]at h hp
  simp only[a1g]at h
  simp only[tlen]at hp
  cases h
  exact⟨_,rfl,show t.length<=_ by omega⟩
theorem b7z (s:List UInt8)(a b:Nat):((s.take a).drop b).length<=s.length:=by
 rw[List.length_drop,List.length_take];omega
theorem b98 (s:List UInt8)(i:Nat):∀k,(a0f s i k).length<=s.length
 | 0=>Nat.zero_le _
 | k+1=>by
  unfold a0f
  split
  ·exact b7z _ _ _
  ·exact b98 s i k
theorem step_txt {s:List UInt8}{x y:MS}(h:stepM s x=.go y):∃t:Tok,y.toks=x.toks++[t]/\t.t.length<=s.length:=by
 obtain⟨i0,toks,st⟩:=x
 obtain⟨i,h0⟩:∃i,U5 s i0=i:=⟨_,rfl⟩
 show ∃t:Tok,y.toks=toks++[t]/\_
 rcases Nat.lt_or_ge i s.length with hi|hi
 ·cases hc:closes (s.getD i 0).toNat st with
  | true =>
   cases st with
   | nil=>cases hc
   | cons z st =>
    obtain⟨q,p⟩:=z
    rw[(a3e h0 hi hc).2]at h
    exact c2Q (a1Y h).2
  | false =>
   by_cases h1:(s.getD i 0).toNat=34
   ·rw[a4G h0 hi hc h1]at h
    exact c2Q (a1Y h).2
   ·cases h2:J2 (s.getD i 0)with
    | true =>
     rw[a2y h0 hi hc h1 h2]at h
     have h:=(a1Y h).2
     split at h
     ·cases h
     ·cases h
      exact⟨_,rfl,b7z _ _ _⟩
    | false =>
     cases h3:X5 (s.getD i 0)with
     | true =>
      rw[a1O h0 hi hc h1 h2 h3]at h
      have h:=(a1Y h).2
      split at h
      ·cases h
      ·cases h;exact⟨_,rfl,b7z _ _ _⟩
     | false =>
      cases hw:a0f s i 2 with
      | nil=>rw[a4w h0 hi hc h1 h2 h3 hw]at h;cases h
      | cons b w =>
       have hl:=b98 s i 2
       rw[hw]at hl
       rw[a1Z h0 hi hc h1 h2 h3 hw (by simp)]at h
       have h:=(a1Y h).2
       cases h
       exact⟨_,rfl,hl⟩
 ·cases st with
  | nil=>rw[a4x h0 hi]at h;cases h
  | cons z st=>obtain⟨q,p⟩:=z;rw[a4y h0 hi]at h;cases h
theorem c3W {s:List UInt8}{x y:MS}(h:Reach s x y):(∀t∈x.toks,t.t.length<=s.length) -> ∀t∈y.toks,t.t.length<=s.length:=by
 induction h with
 | refl x=>exact fun h=>h
 | step x y z h1 _ ih =>
  intro h2
  obtain⟨t,g1,g2⟩:=step_txt h1
  refine ih fun u hu=>?_
  rw[g1]at hu
  rcases List.mem_append.1 hu with hu|hu
  ·exact h2 u hu
  ·rcases List.mem_singleton.1 hu with rfl
   exact g2
theorem tok_txt {s:List UInt8}{l:List Tok}(h:a5k s=.done l):∀t∈l,t.t.length<=8000:=by
 obtain⟨h1,_,_,h2⟩:=b0z s
 have h3:=(h1.lay l h).1
 obtain⟨y,g1,g2,_⟩:=h2 h3
 rw[h]at g2
 rw[<-(b1S g2).1]
 exact fun t ht=>Nat.le_trans (c3W g1 (fun t ht=>by cases ht) t ht) h3
end Go.Proofs.YtmippldlhnajkaaGreatDoor.Sc
namespace Go.Proofs.YtmippldlhnajkaaGreatDoor
open Go Go.Vm
theorem idxS_ok {s:Str}{i:Nat}(h:i<s.length):idxS s (i:Int)=some ((s[i]).toNat:Int):=by
 have h1:inR (i:Int) s.length=true:=by simp[inR,h]
 simp[idxS,h1,h]
theorem wrap8 {a:Int}(h1:0<=a)(h2:a<=255):IntKind.wrap .u8 a=a:=by
 simp only[IntKind.wrap,IntKind.bits,IntKind.signed]
 simp
 omega
theorem b9A {n:Nat}{s:Str}(hb:b31 s=true)(hm:a7f s 0<=9223372036854775807)(hlen:s.length<=100):∀(m i acc:Nat),i<=s.length->s.length-i<m->a7f (s.drop i) acc=a7f s 0->a2c n s m (acc:Int) (i:Int)=some ((a7f s 0:Nat):Int)
 | 0,i,acc,h1,h2,h3=>by omega
 | m+1,i,acc,h1,h2,h3=>by
  simp only[a2c]
  rcases Nat.lt_or_ge i s.length with h|h
  ·rw[List.drop_eq_getElem_cons h,a6u]at h3
   have hd:48 <=(s[i]).toNat/\(s[i]).toNat<=57:=by
    simp only[b31,List.all_eq_true,Bool.and_eq_true,Nat.ble_eq]at hb
    exact hb _ (List.getElem_mem h)
   have hg:=c2u (s.drop (i+1)) (acc*10+((s[i]).toNat-48))
   rw[Z7 (by omega),cond_true,idxS_ok h,Option.bind_some,b3y (a:=(acc:Int)*10) (by omega) (by omega),wrap8 (by omega) (by omega),b3y (a:=((s[i]).toNat:Int)-48) (by omega) (by omega),b3y (a:=(acc:Int)*10+_) (by omega) (by omega),P5 (by omega)]
   rw[show(acc:Int)*10+(((s[i]).toNat:Int)-48) =((acc*10+((s[i]).toNat-48):Nat):Int)from by omega]
   exact b9A hb hm hlen m (i+1) _ h (by omega) h3
  ·rw[Y5 (by omega),cond_false]
   rw[List.drop_eq_nil_of_le h]at h3
   have h3:acc=a7f s 0:=h3
   rw[h3]
theorem num_ok {n:Nat}{s:Str}(h:digB s=true)(hn:100<=n):a0j n s=some ((a7f s 0:Nat):Int):=by
 simp only[digB,Bool.and_eq_true,Nat.ble_eq]at h
 obtain⟨h1,h2,h3,h4⟩:=h
 unfold a0j
 have:=b9A (n:=n) h1 h4 (by omega) n 0 0 (Nat.zero_le _) (by omega) rfl
 have this:a2c n s n 0 0=some ((a7f s 0:Nat):Int):=this
 rw[this];rfl
theorem digV_max {s:Str}(h:digB s=true):a7f s 0<=9223372036854775807:=by
 simp only[digB,Bool.and_eq_true,Nat.ble_eq]at h
 exact h.2.2.2
theorem cx_ok (s:Str):Cx (a9R (Sc.a5k s)):=by
 refine⟨tokL_len s,fun k=>?_,fun k hk=>?_⟩
 ·unfold a8B
  cases h:(a9R (Sc.a5k s))[k]? with
  | none=>exact Nat.zero_le _
  | some t =>
   show t.text.length<=20000
   cases hr:Sc.a5k s with
   | done l =>
    rw[hr]at h
    simp only[a9R,List.getElem?_map]at h
    cases hq:l[k]? with
    | none=>rw[hq]at h;cases h
    | some u =>
     rw[hq]at h;cases h
     have:=Sc.tok_txt hr u (List.mem_of_getElem? hq)
     show u.t.length<=20000
     omega
   | _=>rw[hr]at h;simp[a9R]at h
 ·unfold isK at hk
  unfold a8B
  cases h:(a9R (Sc.a5k s))[k]? with
  | none=>rw[h]at hk;cases hk
  | some t =>
   rw[h]at hk
   have hk:t.kind=3:=by simpa [eqB]using hk
   cases hr:Sc.a5k s with
   | done l =>
    rw[hr]at h
    simp only[a9R,List.getElem?_map]at h
    cases hq:l[k]? with
    | none=>rw[hq]at h;cases h
    | some u =>
     rw[hq]at h;cases h
     have hb:=Sc.int_digB (Sc.tok_int hr u (List.mem_of_getElem? hq) hk)
     have hm:=digV_max hb
     exact⟨(a7f u.t 0:Nat),by omega,by omega,fun n hn=>num_ok hb (by omega)⟩
   | _=>rw[hr]at h;simp[a9R]at h
end Go.Proofs.YtmippldlhnajkaaGreatDoor
namespace Go.Proofs.YtmippldlhnajkaaGreatDoor
open Go Go.Vm
theorem c3i {n:Nat}{x:Nod}{Φ:M8}(hL:x.l.length<=1000000)(H:∀y∈x.l,∃r,Φ.a0X y=some r):∀(m i:Nat) (a b:Int),x.l.length<m+i->i<=x.l.length -> ∃r,a5B n Φ x m a b (i:Int)=some r
 | 0,i,a,b,h1,h2=>by omega
 | m+1,i,a,b,h1,h2=>by
  rw[a5B.eq_2]
  rcases Nat.lt_or_ge i x.l.length with h|h
  ·obtain⟨⟨r1,r2⟩,e⟩:=H _ (List.getElem_mem h)
   rw[Z7 (by omega),Y3 h]
   simp only[NF,e,P5 (show i<=1000000000000 by omega)]
   exact c3i hL H m (i+1) _ _ (by omega) (by omega)
  ·rw[Y5 (by omega)]
   exact⟨_,rfl⟩
theorem b99:∀(n:Nat) (x:Nod),x.sz<=1000000->x.sz<n -> ∃r,(M8.fs n).a0X x=some r
 | 0,x,h1,h2=>by omega
 | n+1,x,h1,h2=>by
  have hz:=x.a7y
  have hl:=V3 x.l
  obtain⟨r,e⟩:=c3i (n:=n) (x:=x) (Φ:=M8.fs n) (by omega) (fun y hy=>b99 n y (by have:=Z4 hy;omega) (by have:=Z4 hy;omega)) n 0 1 0 (by omega) (Nat.zero_le _)
  show ∃r,a4Y n (M8.fs n) x=some r
  unfold a4Y
  simp only[Int.natCast_zero]at e
  rw[e]
  exact⟨_,rfl⟩
theorem b7f {n:Nat}{t:Typ}{most:Int}{Φ:K9}(hL:t.args.length<=1000000)(H:∀y∈t.args,∀q,∃r,Φ.a0n y q=some r):∀(m i:Nat) (a:Int),t.args.length<m+i->i<=t.args.length -> ∃r,a4Z n Φ most t m a (i:Int)=some r
 | 0,i,a,h1,h2=>by omega
 | m+1,i,a,h1,h2=>by
  rw[a4Z.eq_2]
  rcases Nat.lt_or_ge i t.args.length with h|h
  ·rw[Z7 (by omega),Y3 h]
   simp only[NF]
   cases ltB a most
   ·exact⟨_,rfl⟩
   ·obtain⟨r,e⟩:=H _ (List.getElem_mem h) (w64 (most-a))
    simp only[NF,e,P5 (show i<=1000000000000 by omega)]
    exact b7f hL H m (i+1) _ (by omega) (by omega)
  ·rw[Y5 (by omega)]
   exact⟨_,rfl⟩
theorem b7g:∀(n:Nat) (t:Typ) (q:Int),t.sz<=1000000->t.sz<n -> ∃r,(K9.fs n).a0n t q=some r
 | 0,x,q,h1,h2=>by omega
 | n+1,x,q,h1,h2=>by
  have hz:=x.a7y
  have hl:=a9e x.args
  obtain⟨r,e⟩:=b7f (n:=n) (t:=x) (most:=q) (Φ:=K9.fs n) (by omega) (fun y hy q=>b7g n y q (by have:=b4D hy;omega) (by have:=b4D hy;omega)) n 0 1 (by omega) (Nat.zero_le _)
  show ∃r,a4c n (K9.fs n) x q=some r
  unfold a4c
  simp only[Int.natCast_zero]at e
  rw[e]
  exact⟨_,rfl⟩
theorem expr_tot (s:Str){n:Nat}(hn:400000<=n):∃x f,a6Q n s=some (x,f)/\(f.code=0->G 0 x/\x.sz<=12000):=by
 have C:=cx_ok s
 have hl:=C.hl
 unfold a6Q a9b
 simp only[NF]
 generalize hL:a9R (Sc.a5k s)=l at *
 generalize b3w (Sc.a5k s)=c
 rcases Classical.em (c=0)with hc|hc
 ·rw[a3T hc]
  obtain⟨⟨x,b,q',pl⟩,e,q,rfl,h1,h2,h3⟩:=(he C (size:=(List.length s:Int)) n).f_expr (pl:=-1) (k:=0) (Nat.zero_le _) (by omega)
  have e:E8 n l (List.length s:Int) 0 (-1)=some (x,b,(q:Int),pl):=e
  simp only[NF,e]
  cases b with
  | false =>
   cases leB 0 pl with
   | true=>exact⟨_,_,rfl,fun h=>by simp at h⟩
   | false =>
    simp only[NF,a6x hl h2]
    exact⟨_,_,rfl,fun h=>by simp at h⟩
  | true =>
   obtain⟨h3,h4⟩:=h3 rfl
   have h4:x.sz+4*0<=4*q:=h4
   obtain⟨⟨r1,r2⟩,e2⟩:=b99 n x (by omega) (by omega)
   have e2:a0X n x=some (r1,r2):=e2
   simp only[NF]
   cases ltB (q:Int) (List.length l:Int)with
   | true =>
    simp only[NF,a6x hl h2]
    exact⟨_,_,rfl,fun h=>by simp at h⟩
   | false =>
    simp only[NF,e2]
    cases ltB 40 r2 with
    | true=>exact⟨_,_,rfl,fun h=>by simp at h⟩
    | false =>
     simp only[NF]
     cases ltB 4000 r1 with
     | true=>exact⟨_,_,rfl,fun h=>by simp at h⟩
     | false=>exact⟨_,_,rfl,fun _=>⟨h3,by omega⟩⟩
 ·rw[a0J hc]
  exact⟨_,_,rfl,fun h=>absurd h hc⟩
theorem type_tot (s:Str){n:Nat}(hn:400000<=n):∃x f,a6R n s=some (x,f)/\(f.code=0->GT x/\x.sz<=12000):=by
 have C:=cx_ok s
 have hl:=C.hl
 unfold a6R a9b
 simp only[NF]
 generalize hL:a9R (Sc.a5k s)=l at *
 generalize b3w (Sc.a5k s)=c
 rcases Classical.em (c=0)with hc|hc
 ·rw[a3T hc]
  obtain⟨⟨x,b,q'⟩,e,q,rfl,h1,h2,h3⟩:=(ht C (size:=(List.length s:Int)) n).1 (pl:=-1) (k:=0) (Nat.zero_le _) (by omega)
  have e:K5 n l (List.length s:Int) 0 (-1)=some (x,b,(q:Int)):=e
  simp only[NF,e]
  cases b with
  | false =>
   simp only[NF,a6x hl h2]
   exact⟨_,_,rfl,fun h=>by simp at h⟩
  | true =>
   obtain⟨h3,h4⟩:=h3 rfl
   have h4:x.sz+0<=q:=h4
   obtain⟨r1,e2⟩:=b7g n x 41 (by omega) (by omega)
   have e2:a0n n x 41=some r1:=e2
   simp only[NF]
   cases ltB (q:Int) (List.length l:Int)with
   | true =>
    simp only[NF,a6x hl h2]
    exact⟨_,_,rfl,fun h=>by simp at h⟩
   | false =>
    simp only[NF,e2]
    cases ltB 40 r1 with
    | true=>exact⟨_,_,rfl,fun h=>by simp at h⟩
    | false=>exact⟨_,_,rfl,fun _=>⟨h3,by omega⟩⟩
 ·rw[a0J hc]
  exact⟨_,_,rfl,fun h=>absurd h hc⟩
theorem speaks_E (a b:Str):a3o 1000000 a b=some true:=by
 obtain⟨x,f,e1,h1⟩:=expr_tot a (n:=1000000) (by omega)
 obtain⟨t,g,e2,h2⟩:=type_tot b (n:=1000000) (by omega)
 have k1:f.code=0 -> ∃r,a1o 1000000 x=some r/\a1p 1000000 x=some r:=fun h=>c1I (h1 h).1 (by have:=(h1 h).2;omega) (by have:=(h1 h).2;omega)
 have k2:g.code=0 -> ∃r,a0K 1000000 t=some r/\a0L 1000000 t=some r:=fun h=>c3R (h2 h).1 (by have:=(h2 h).2;omega) (by have:=(h2 h).2;omega)
 unfold a3o a6J b4P
 simp only[NF,e1,e2]
 have m2:Option.bind (α:=Bool) (cond (eqB g.code 0) ((a0K 1000000 t).bind fun r10=>(a0L 1000000 t).bind fun r11=>some (!eqS r10 r11)) (some false)) (fun x513=>cond x513 (some false) (some true))=some true:=by
  rcases Classical.em (g.code=0)with h|h
  ·obtain⟨r,g1,g2⟩:=k2 h
   rw[a3T h]
   simp only[NF,g1,g2,a90]
  ·rw[a0J h];rfl
 have m1:Option.bind (α:=Bool) (cond (eqB f.code 0) ((a1o 1000000 x).bind fun r6=>(a1p 1000000 x).bind fun r7=>some (!eqS r6 r7)) (some false)) (fun x516=>cond x516 (some false) (Option.bind (α:=Bool) (cond (eqB g.code 0) ((a0K 1000000 t).bind fun r10=>(a0L 1000000 t).bind fun r11=>some (!eqS r10 r11)) (some false)) (fun x513=>cond x513 (some false) (some true))))=some true:=by
  rcases Classical.em (f.code=0)with h|h
  ·obtain⟨r,g1,g2⟩:=k1 h
   rw[a3T h]
   simp only[NF,g1,g2,a90]
   exact m2
  ·rw[a0J h]
   simp only[NF]
   exact m2
 cases ltB 8200 (List.length a:Int)with
 | true=>rfl
 | false =>
  cases ltB 8200 (List.length b:Int)with
  | true=>rfl
  | false =>
   simp only[NF]
   exact m1
end Go.Proofs.YtmippldlhnajkaaGreatDoor
namespace Go.Proofs.YtmippldlhnajkaaGreatDoor
open Go Go.Vm
theorem c1V (a b:Str):E env (.call 4 [.str a,.str b]) []=some (.ret (.bool true) []):=b06.ok (speaks_E a b)
end Go.Proofs.YtmippldlhnajkaaGreatDoor
