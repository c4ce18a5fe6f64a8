/- Texts of ParseBlanks, joined. -/
import Derived.Test.YtjhfloacokgdiaaGreatDoorParseBlanksJ17
set_option maxRecDepth 100000
set_option maxHeartbeats 20000000
set_option linter.unusedSimpArgs false
set_option linter.unusedVariables false
set_option linter.unusedSectionVars false
namespace Go.Proofs.YtjhfloacokgdiaaGreatDoor
open Go Go.Vm
section
variable {V:Int->Str->Prop} {l l':List Tok} {size size':Int} (C:Cx V l l')
include C
theorem b8i {R n k0:Nat}{Φ:o9}(pr1:∀{k:Nat},k<=l.length->k0<k->ST l (GT V false) 0 k (Φ.A7 l k size) (Φ.A7 l' k size')):∀(m k:Nat) (xs:List Typ),k0<=k->k<=l.length->l.length<m+k->szT xs+k0<=k ->(∀x∈xs,GT V false x)->LTi l (fun z=>∀x∈z,GT V false x) k0 (a0t n Φ size l m xs k) (a0t n Φ size' l' m xs k)
 | 0,_,_,_,_,_,_,_=>by omega
 | m+1,k,xs,h1,h2,h3,h4,h5=>by
  have hl:=C.hl
  have hx:=a9p xs
  have ih:=fun{k:Nat} {xs:List Typ}=>b8i (R:=R) (n:=n) (k0:=k0) (Φ:=Φ) pr1 m k xs
  intro A Q f f' g g' hok hpan
  rw[a0t.eq_2,a0t.eq_2]
  exact two
theorem b45 {R n k0:Nat}{Φ:o9}(pr1:∀{k:Nat},k<=l.length->k0<k->ST l (GT V false) 0 k (Φ.A7 l k size) (Φ.A7 l' k size')):∀(m k:Nat) (xs:List Typ),k0<=k->k<=l.length->l.length<m+k->szT xs+k0<=k ->(∀x∈xs,GT V false x)->LTi l (fun z=>∀x∈z,GT V false x) k0 (a0b n Φ size l m xs k) (a0b n Φ size' l' m xs k)
 | 0,_,_,_,_,_,_,_=>by omega
 | m+1,k,xs,h1,h2,h3,h4,h5=>by
  have hl:=C.hl
  have hx:=a9p xs
  have ih:=fun{k:Nat} {xs:List Typ}=>b45 (R:=R) (n:=n) (k0:=k0) (Φ:=Φ) pr1 m k xs
  intro A Q f f' g g' hok hpan
  rw[a0b.eq_2,a0b.eq_2]
  exact two
@[reducible] def LPt (l:List Tok) (P:Typ->Prop) (k:Nat) {R:Type} (p r:Option (Lr (Int×Typ) (Rs R (Int×Int)))):Prop:=∀(A:Type) (Q:A->A->Prop) (f f':Int×Typ->Option A) (g g':Rs R (Int×Int)->Option A),(∀{t:Typ} {q:Nat},k<q->q<=l.length->t.sz+k<=q->P t->S2 Q (f ((q:Int),t)) (f' ((q:Int),t))) ->(∀{e e':Int} {q:Nat},k<=q->q<=l.length->S2 Q (g (.pan (e,(q:Int)))) (g' (.pan (e',(q:Int)))))->S2 Q (bS p f g) (bS r f' g')
theorem b46 {n k0:Nat}{b:Bool}{Φ:o9}:∀(m k:Nat) (t:Typ),k0<k->k<=l.length->l.length<m+k->t.sz+k0<=k->GT V true t->LPt l (GT V true) k0 (a0c n Φ b size l m k t) (a0c n Φ b size' l' m k t)
 | 0,_,_,_,_,_,_,_=>by omega
 | m+1,k,t,h1,h2,h3,h4,h5=>by
  have hl:=C.hl
  have hz:=t.a3T
  have ih:=fun{k:Nat} {t:Typ}=>b46 (n:=n) (k0:=k0) (b:=b) (Φ:=Φ) m k t
  intro A Q f f' g g' hok hpan
  rw[a0c.eq_2,a0c.eq_2]
  cases b
  ·exact two
  ·exact two
structure HT (V:Int->Str->Prop)(l l':List Tok)(size size':Int)(n:Nat):Prop where
 typ:∀{k:Nat},k<=l.length->30000+40*(l.length-k)+10<=n->ST l (GT V false) 0 k ((o9.fs n).A7 l k size) ((o9.fs n).A7 l' k size')
 path:∀{k:Nat} {b:Bool},k<=l.length->30000+40*(l.length-k)+5<=n->ST l (GT V true) 0 k ((o9.fs n).K3 b l k size) ((o9.fs n).K3 b l' k size')
theorem ht:∀n,HT V l l' size size' n
 | 0=>⟨fun _ h=>by omega,fun _ h=>by omega⟩
 | n+1=>by
  have hl:=C.hl
  have H:=ht n
  refine⟨fun{k} hk hn=>?_,fun{k b} hk hn=>?_⟩
  ·have pr1:=fun{k:Nat} h1 h2=>H.typ (k:=k) h1 h2
   have pr2:=fun{k:Nat} {b:Bool} h1 h2=>H.path (k:=k) (b:=b) h1 h2
   have lp1:=fun{k':Nat} {xs:List Typ} h1 h2 h4 h5=>b8i C (size:=size) (size':=size') (R:=0) (n:=n) (k0:=k) (Φ:=o9.fs n) (fun g1 g2=>H.typ g1 (by omega)) n k' xs h1 h2 (by omega) h4 h5
   intro A Q f f' g g' hok hpan
   show S2 Q (l5 (a0L n (o9.fs n) l k size) f g) (l5 (a0L n (o9.fs n) l' k size') f' g')
   unfold a0L
   exact two
  ·have pr1:=fun{k:Nat} h1 h2=>H.typ (k:=k) h1 h2
   have lp1:=fun{k':Nat} {xs:List Typ} h1 h2 h4 h5=>b45 C (size:=size) (size':=size') (R:=0) (n:=n) (k0:=k) (Φ:=o9.fs n) (fun g1 g2=>H.typ g1 (by omega)) n k' xs h1 h2 (by omega) h4 h5
   have lp2:=fun{k':Nat} {t:Typ} h1 h2 h4 h5=>b46 C (size:=size) (size':=size') (n:=n) (k0:=k) (b:=b) (Φ:=o9.fs n) n k' t h1 h2 (by omega) h4 h5
   intro A Q f f' g g' hok hpan
   show S2 Q (l5 (a0s n (o9.fs n) b l k size) f g) (l5 (a0s n (o9.fs n) b l' k size') f' g')
   unfold a0s
   exact two
theorem a9T {n k:Nat}(hk:k<=l.length)(hn:200000<=n):ST l (GT V false) 0 k (A7 n l k size) (A7 n l' k size'):=have hl:=C.hl;(ht C n).typ hk (by omega)
theorem path_r {n k:Nat}{b:Bool}(hk:k<=l.length)(hn:200000<=n):ST l (GT V true) 0 k (K3 n b l k size) (K3 n b l' k size'):=have hl:=C.hl;(ht C n).path hk (by omega)
theorem b6N {R0 n k0:Nat}(hn:200000<=n):∀(m k:Nat) (xs ys:List Nod),k0<=k->k<=l.length->l.length<m+k->ers xs=ers ys->szN xs+4*k0<=4*k ->(∀x∈xs,G V 7 x)->SLi l (fun z=>∀x∈z,G V 7 x) k0 (U0 n size l m xs k) (U0 n size' l' m ys k)
 | 0,_,_,_,_,_,_,_,_,_=>by omega
 | m+1,k,xs,ys,h1,h2,h3,h4,h5,h6=>by
  have hl:=C.hl
  have hx:=a0P xs
  have hy:=a0S h4
  have ih:=fun{k:Nat} {xs ys:List Nod}=>b6N (R0:=R0) (n:=n) (k0:=k0) hn m k xs ys
  intro A Q f f' g g' hok hpan
  rw[U0.eq_2,U0.eq_2]
  exact two
theorem b6O {n k:Nat}(hk:k<=l.length)(hn:200000<=n):SLi l (fun z=>∀x∈z,G V 7 x) k (V7 n l k size) (V7 n l' k size'):=by
 have hl:=C.hl
 have lp1:=fun{k':Nat} h1 h2=>b6N C (size:=size) (size':=size') (R0:=0) (n:=n) (k0:=k) hn n k' [] [] h1 h2 (by omega) rfl (by simp only[a6c];omega) all_nil
 intro A Q f f' g g' hok hpan
 unfold V7
 exact two
theorem gens_l {R0 n k0:Nat}(hn:200000<=n):∀(m k:Nat) (xs ys:List Nod),k0<=k->k<=l.length->l.length<m+k->ers xs=ers ys->szN xs+4*k0<=4*k ->(∀x∈xs,G V 8 x)->LLi l (fun z=>∀x∈z,G V 8 x) k0 (Q5 n size l m xs k) (Q5 n size' l' m ys k)
 | 0,_,_,_,_,_,_,_,_,_=>by omega
 | m+1,k,xs,ys,h1,h2,h3,h4,h5,h6=>by
  have hl:=C.hl
  have hx:=a0P xs
  have hy:=a0S h4
  have ih:=fun{k:Nat} {xs ys:List Nod}=>gens_l (R0:=R0) (n:=n) (k0:=k0) hn m k xs ys
  have pr2:=fun{k:Nat} (h1:k<=l.length)=>b6O C (size:=size) (size':=size') (n:=n) h1 hn
  intro A Q f f' g g' hok hpan
  rw[Q5.eq_2,Q5.eq_2]
  exact two
theorem gens_r {n k:Nat}(hk:k<=l.length)(hn:200000<=n):SLi l (fun z=>∀x∈z,G V 8 x) k (M6 n l k size) (M6 n l' k size'):=by
 have hl:=C.hl
 have lp1:=fun{k':Nat} h1 h2=>gens_l C (size:=size) (size':=size') (R0:=0) (n:=n) (k0:=k) hn n k' [] [] h1 h2 (by omega) rfl (by simp only[a6c];omega) all_nil
 intro A Q f f' g g' hok hpan
 unfold M6
 exact two
theorem c04 {R0 n k0:Nat}(hn:200000<=n):∀(m k:Nat) (xs ys:List Nod),k0<=k->k<=l.length->l.length<m+k->ers xs=ers ys->szN xs+4*k0<=4*k ->(∀x∈xs,G V 9 x)->SLi l (fun z=>∀x∈z,G V 9 x) k0 (Y2 n size l m xs k) (Y2 n size' l' m ys k)
 | 0,_,_,_,_,_,_,_,_,_=>by omega
 | m+1,k,xs,ys,h1,h2,h3,h4,h5,h6=>by
  have hl:=C.hl
  have hx:=a0P xs
  have hy:=a0S h4
  have ih:=fun{k:Nat} {xs ys:List Nod}=>c04 (R0:=R0) (n:=n) (k0:=k0) hn m k xs ys
  have pr1:=fun{k:Nat} (h1:k<=l.length)=>a9T C (size:=size) (size':=size') (n:=n) h1 hn
  intro A Q f f' g g' hok hpan
  rw[Y2.eq_2,Y2.eq_2]
  exact two
theorem c05 {n k:Nat}(hk:k<=l.length)(hn:200000<=n):SLi l (fun z=>∀x∈z,G V 9 x) k (Y8 n l k size) (Y8 n l' k size'):=by
 have hl:=C.hl
 have lp1:=fun{k':Nat} h1 h2=>c04 C (size:=size) (size':=size') (R0:=0) (n:=n) (k0:=k) hn n k' [] [] h1 h2 (by omega) rfl (by simp only[a6c];omega) all_nil
 intro A Q f f' g g' hok hpan
 unfold Y8
 exact two
theorem b7K {R0 n k0:Nat}(hn:200000<=n):∀(m k:Nat) (xs ys:List Nod),k0<=k->k<=l.length->l.length<m+k->ers xs=ers ys->szN xs+4*k0<=4*k ->(∀x∈xs,G V 4 x)->LLi l (fun z=>∀x∈z,G V 4 x) k0 (U6 n size l m xs k) (U6 n size' l' m ys k)
 | 0,_,_,_,_,_,_,_,_,_=>by omega
 | m+1,k,xs,ys,h1,h2,h3,h4,h5,h6=>by
  have hl:=C.hl
  have hx:=a0P xs
  have hy:=a0S h4
  have ih:=fun{k:Nat} {xs ys:List Nod}=>b7K (R0:=R0) (n:=n) (k0:=k0) hn m k xs ys
  have pr1:=fun{k:Nat} (h1:k<=l.length)=>a9T C (size:=size) (size':=size') (n:=n) h1 hn
  intro A Q f f' g g' hok hpan
  rw[U6.eq_2,U6.eq_2]
  exact two
theorem b7L {n k:Nat}(hk:k<=l.length)(hn:200000<=n):SLi l (fun z=>∀x∈z,G V 4 x) k (V9 n l k size) (V9 n l' k size'):=by
 have hl:=C.hl
 have lp1:=fun{k':Nat} h1 h2=>b7K C (size:=size) (size':=size') (R0:=0) (n:=n) (k0:=k) hn n k' [] [] h1 h2 (by omega) rfl (by simp only[a6c];omega) all_nil
 intro A Q f f' g g' hok hpan
 unfold V9
 exact two
theorem b74 {n k:Nat}(hk:k<=l.length)(hn:200000<=n):ST l (fun t=>t=uT∨GT V false t) 1 k (W9 n l k size) (W9 n l' k size'):=by
 have hl:=C.hl
 have pr1:=fun{k:Nat} (h1:k<=l.length)=>a9T C (size:=size) (size':=size') (n:=n) h1 hn
 intro A Q f f' g g' hok hpan
 unfold W9
 exact two
@[reducible] def SS (V:Int->Str->Prop) (l:List Tok) (k:Nat) (p r:Option (Rs (Str×Typ×List Nod×Int×Int) (Int×Int))):Prop:=∀(A:Type) (Q:A->A->Prop) (f f':Str×Typ×List Nod×Int×Int->Option A) (g g':Int×Int->Option A),(∀{s:Str} {t:Typ} {x y:List Nod} {a a':Int} {q:Nat},k<q->q<=l.length->ers x=ers y->t.sz+szN x+1+4*k<=4*q->x.length<=40000->y.length<=40000->V 1 s ->(t=uT∨GT V false t)->SGX V x->S2 Q (f (s,t,x,a,(q:Int))) (f' (s,t,y,a',(q:Int)))) ->(∀{e e':Int} {q:Nat},k<=q->q<=l.length->S2 Q (g (e,(q:Int))) (g' (e',(q:Int))))->S2 Q (l5 p f g) (l5 r f' g')
theorem sign_r {n k:Nat}(hk:k<=l.length)(hn:200000<=n):SS V l k (P7 n l k size) (P7 n l' k size'):=by
 have hl:=C.hl
 have pr1:=fun{k:Nat} (h1:k<=l.length)=>a9T C (size:=size) (size':=size') (n:=n) h1 hn
 have pr2:=fun{k:Nat} (h1:k<=l.length)=>gens_r C (size:=size) (size':=size') (n:=n) h1 hn
 have pr3:=fun{k:Nat} (h1:k<=l.length)=>b7L C (size:=size) (size':=size') (n:=n) h1 hn
 have pr4:=fun{k:Nat} (h1:k<=l.length)=>b74 C (size:=size) (size':=size') (n:=n) h1 hn
 have pr5:=fun{k:Nat} (h1:k<=l.length)=>c05 C (size:=size) (size':=size') (n:=n) h1 hn
 intro A Q f f' g g' hok hpan
 unfold P7
 exact two
theorem b71 {R0 n k0:Nat}(hn:200000<=n):∀(m k:Nat) (xs ys:List Nod),k0<=k->k<=l.length->l.length<m+k->ers xs=ers ys->szN xs+4*k0<=4*k ->(∀x∈xs,G V 16 x)->LIi l (fun z=>∀x∈z,G V 16 x) k0 (Q6 n size l m k xs) (Q6 n size' l' m k ys)
 | 0,_,_,_,_,_,_,_,_,_=>by omega
 | m+1,k,xs,ys,h1,h2,h3,h4,h5,h6=>by
  have hl:=C.hl
  have hx:=a0P xs
  have hy:=a0S h4
  have ih:=fun{k:Nat} {xs ys:List Nod}=>b71 (R0:=R0) (n:=n) (k0:=k0) hn m k xs ys
  have pr2:=fun{k:Nat} (h1:k<=l.length)=>b6O C (size:=size) (size':=size') (n:=n) h1 hn
  intro A Q f f' g g' hok hpan
  rw[Q6.eq_2,Q6.eq_2]
  exact two
theorem b48 {R0 n k0:Nat}(hn:200000<=n):∀(m k:Nat) (xs ys:List Nod),k0<=k->k<=l.length->l.length<m+k->ers xs=ers ys->szN xs+4*k0<=4*k->PRX V xs->LIi l (PRX V) k0 (P5 n size l m k xs) (P5 n size' l' m k ys)
 | 0,_,_,_,_,_,_,_,_,_=>by omega
 | m+1,k,xs,ys,h1,h2,h3,h4,h5,h6=>by
  have hl:=C.hl
  have hx:=a0P xs
  have hy:=a0S h4
  have ih:=fun{k:Nat} {xs ys:List Nod}=>b48 (R0:=R0) (n:=n) (k0:=k0) hn m k xs ys
  have pr3:=fun{k:Nat} (h1:k<=l.length)=>sign_r C (size:=size) (size':=size') (n:=n) h1 hn
  intro A Q f f' g g' hok hpan
  rw[P5.eq_2,P5.eq_2]
  exact two
theorem proto_r {n k:Nat}(hk:k<=l.length)(hn:200000<=n):SNi l (G V 18) k (Y1 n l k size) (Y1 n l' k size'):=by
 have hl:=C.hl
 have lp1:=fun{k':Nat} h1 h2=>b71 C (size:=size) (size':=size') (R0:=0) (n:=n) (k0:=k) hn n k' [] [] h1 h2 (by omega) rfl (by simp only[a6c];omega) all_nil
 have lp2:=fun{k':Nat} {xs ys:List Nod} h1 h2 h3 h4 h5=>b48 C (size:=size) (size':=size') (R0:=0) (n:=n) (k0:=k) hn n k' xs ys h1 h2 (by omega) h3 h4 h5
 intro A Q f f' g g' hok hpan
 unfold Y1
 exact two
@[reducible] def LP3 (V:Int->Str->Prop) (l:List Tok) (a a':Int) (k:Nat) {R:Type} (p r:Option (Lr (Int×Int×Str×List Nod) (Rs R (Int×Int)))):Prop:=∀(A:Type) (Q:A->A->Prop) (f f':Int×Int×Str×List Nod->Option A) (g g':Rs R (Int×Int)->Option A),(∀{o:Int} {s:Str} {x y:List Nod} {q:Nat},k<q->q<=l.length->ers x=ers y->szN x+2+4*k<=4*q ->(G V 0 ⟨o,s,0,zT,[],x,a⟩/\PLC ⟨o,s,0,zT,[],x,a⟩)->S2 Q (f ((q:Int),o,s,x)) (f' ((q:Int),o,s,y))) ->(∀{e e':Int} {q:Nat},k<=q->q<=l.length->S2 Q (g (.pan (e,(q:Int)))) (g' (.pan (e',(q:Int)))))->S2 Q (bS p f g) (bS r f' g')
omit C in
theorem c0R {s u:Str}{o a:Int}{x:List Nod}(hv:V 1 s)(h:G V 0 ⟨o,u,0,zT,[],x,a⟩/\PLC ⟨o,u,0,zT,[],x,a⟩):G V 0 ⟨55,s,0,zT,[],[⟨o,u,0,zT,[],x,a⟩],a⟩/\PLC ⟨55,s,0,zT,[],[⟨o,u,0,zT,[],x,a⟩],a⟩:=⟨.field hv h.1,.fld h.2⟩
omit C in
theorem plc_nm {s:Str}{a:Int}(hv:V 1 s):G V 0 ⟨54,s,0,zT,[],[],a⟩/\PLC ⟨54,s,0,zT,[],[],a⟩:=⟨.name hv,.nm rfl⟩
theorem b3A {R0 n k0:Nat}{a a':Int}:∀(m k:Nat) (o:Int) (s:Str) (xs ys:List Nod),k0<k->k<=l.length->l.length<m+k->ers xs=ers ys->szN xs+2+4*k0<=4*k ->(G V 0 ⟨o,s,0,zT,[],xs,a⟩/\PLC ⟨o,s,0,zT,[],xs,a⟩)->LP3 V l a a' k0 (Y0 n a size l m k o s xs) (Y0 n a' size' l' m k o s ys)
 | 0,_,_,_,_,_,_,_,_,_,_,_=>by omega
 | m+1,k,o,s,xs,ys,h1,h2,h3,h4,h5,h6=>by
  have hl:=C.hl
  have hx:=a0P xs
  have hy:=a0S h4
  have ih:=fun{k:Nat} {o:Int} {s:Str} {xs ys:List Nod}=>b3A (R0:=R0) (n:=n) (k0:=k0) (a:=a) (a':=a') m k o s xs ys
  have pf:=fun{s u:Str} {o:Int} {x:List Nod}=>c0R (V:=V) (s:=s) (u:=u) (o:=o) (a:=a) (x:=x)
  intro A Q f f' g g' hok hpan
  rw[Y0.eq_2,Y0.eq_2]
  exact two
theorem place_r {n k:Nat}(hk:k<=l.length)(hn:200000<=n):SNi l (fun x=>G V 0 x/\PLC x) k (a0K n l k size) (a0K n l' k size'):=by
 have hl:=C.hl
 have lp1:=fun{a a':Int} {k':Nat} {o:Int} {s:Str} {xs ys:List Nod} h1 h2 h3 h4 h5=>b3A C (size:=size) (size':=size') (R0:=0) (n:=n) (k0:=k) (a:=a) (a':=a') n k' o s xs ys h1 h2 (by omega) h3 h4 h5
 intro A Q f f' g g' hok hpan
 unfold a0K
 exact two
theorem b7Z {R0 n k0:Nat}{Φ:z8}(pr1:∀{k:Nat},k<=l.length->k0<k->SNi l (G V 3) k (Φ.F9 l k size) (Φ.F9 l' k size')):∀(m k:Nat) (xs ys:List Nod),k0<=k->k<=l.length->l.length<m+k->ers xs=ers ys->szN xs+4*k0<=4*k ->(∀x∈xs,G V 3 x)->LIi l (fun z=>∀x∈z,G V 3 x) k0 (R7 n Φ size l m k xs) (R7 n Φ size' l' m k ys)
 | 0,_,_,_,_,_,_,_,_,_=>by omega
 | m+1,k,xs,ys,h1,h2,h3,h4,h5,h6=>by
  have hl:=C.hl
  have hx:=a0P xs
  have hy:=a0S h4
  have ih:=fun{k:Nat} {xs ys:List Nod}=>b7Z (R0:=R0) (n:=n) (k0:=k0) (Φ:=Φ) pr1 m k xs ys
  intro A Q f f' g g' hok hpan
  rw[R7.eq_2,R7.eq_2]
  exact two
theorem b9x:∀(n:Nat) {k:Nat},k<=l.length->30000+40*(l.length-k)<=n->SNi l (G V 3) k ((z8.fs n).F9 l k size) ((z8.fs n).F9 l' k size')
 | 0,_,_,h=>by omega
 | n+1,k,hk,hn=>by
  have hl:=C.hl
  have pr1:=fun{k:Nat} h1 h2=>b9x n (k:=k) h1 h2
  have lp1:=fun{k':Nat} {xs ys:List Nod} h1 h2 h3 h4 h5=>b7Z C (size:=size) (size':=size') (R0:=0) (n:=n) (k0:=k) (Φ:=z8.fs n) (fun g1 g2=>b9x n g1 (by omega)) n k' xs ys h1 h2 (by omega) h3 h4 h5
  intro A Q f f' g g' hok hpan
  show S2 Q (l5 (U7 n (z8.fs n) l k size) f g) (l5 (U7 n (z8.fs n) l' k size') f' g')
  unfold U7
  exact two
theorem pat_r {n k:Nat}(hk:k<=l.length)(hn:200000<=n):SNi l (G V 3) k (F9 n l k size) (F9 n l' k size'):=have hl:=C.hl;b9x C n hk (by omega)
end
end Go.Proofs.YtjhfloacokgdiaaGreatDoor
