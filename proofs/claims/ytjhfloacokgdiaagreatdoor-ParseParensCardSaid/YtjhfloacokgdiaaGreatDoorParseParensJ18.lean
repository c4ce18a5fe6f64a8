/- Texts of ParseParens, joined. -/
import Derived.Test.YtjhfloacokgdiaaGreatDoorParseParensJ17
set_option maxRecDepth 100000
set_option maxHeartbeats 20000000
set_option linter.unusedSimpArgs false
set_option linter.unusedVariables false
set_option linter.unusedSectionVars false
namespace Go.Proofs.YtjhfloacokgdiaaGreatDoor
open Go Go.Vm
section
variable {V:Int->Str->Prop} {l l':List Tok} {size size':Int} (C:Cx V l l')
include C
theorem c0M {R n k0:Nat}{Φ:o5}(pr1:∀{k:Nat},k<=l.length->k0<k->ST l (GT V false) 0 k (Φ.G7 l k size) (Φ.G7 l' k size')):∀(m k:Nat) (xs:List Typ),k0<=k->k<=l.length->l.length<m+k->szT xs+k0<=k ->(∀x∈xs,GT V false x)->LTi l (fun z=>∀x∈z,GT V false x) k0 (U9 n Φ size l m xs k) (U9 n Φ size' l' m xs k)
 | 0,_,_,_,_,_,_,_=>by omega
 | m+1,k,xs,h1,h2,h3,h4,h5=>by
  have hl:=C.hl
  have hx:=a5T xs
  have ih:=fun{k:Nat} {xs:List Typ}=>c0M (R:=R) (n:=n) (k0:=k0) (Φ:=Φ) pr1 m k xs
  intro A Q f f' g g' hok hpan
  rw[U9.eq_2,U9.eq_2]
  exact two
theorem b7o {R n k0:Nat}{Φ:o5}(pr1:∀{k:Nat},k<=l.length->k0<k->ST l (GT V false) 0 k (Φ.G7 l k size) (Φ.G7 l' k size')):∀(m k:Nat) (xs:List Typ),k0<=k->k<=l.length->l.length<m+k->szT xs+k0<=k ->(∀x∈xs,GT V false x)->LTi l (fun z=>∀x∈z,GT V false x) k0 (a0i n Φ size l m xs k) (a0i n Φ size' l' m xs k)
 | 0,_,_,_,_,_,_,_=>by omega
 | m+1,k,xs,h1,h2,h3,h4,h5=>by
  have hl:=C.hl
  have hx:=a5T xs
  have ih:=fun{k:Nat} {xs:List Typ}=>b7o (R:=R) (n:=n) (k0:=k0) (Φ:=Φ) pr1 m k xs
  intro A Q f f' g g' hok hpan
  rw[a0i.eq_2,a0i.eq_2]
  exact two
@[reducible] def LPt (l:List Tok) (P:Typ->Prop) (k:Nat) {R:Type} (p r:Option (Lr (Int×Typ) (Rs R (Int×Int)))):Prop:=∀(A:Type) (Q:A->A->Prop) (f f':Int×Typ->Option A) (g g':Rs R (Int×Int)->Option A),(∀{t:Typ} {q:Nat},k<q->q<=l.length->t.sz+k<=q->P t->S2 Q (f ((q:Int),t)) (f' ((q:Int),t))) ->(∀{e e':Int} {q:Nat},k<=q->q<=l.length->S2 Q (g (.pan (e,(q:Int)))) (g' (.pan (e',(q:Int)))))->S2 Q (bS p f g) (bS r f' g')
theorem b7p {n k0:Nat}{b:Bool}{Φ:o5}:∀(m k:Nat) (t:Typ),k0<k->k<=l.length->l.length<m+k->t.sz+k0<=k->GT V true t->LPt l (GT V true) k0 (W9 n Φ b size l m k t) (W9 n Φ b size' l' m k t)
 | 0,_,_,_,_,_,_,_=>by omega
 | m+1,k,t,h1,h2,h3,h4,h5=>by
  have hl:=C.hl
  have hz:=t.a3w
  have ih:=fun{k:Nat} {t:Typ}=>b7p (n:=n) (k0:=k0) (b:=b) (Φ:=Φ) m k t
  intro A Q f f' g g' hok hpan
  rw[W9.eq_2,W9.eq_2]
  cases b
  ·exact two
  ·exact two
structure HT (V:Int->Str->Prop)(l l':List Tok)(size size':Int)(n:Nat):Prop where
 typ:∀{k:Nat},k<=l.length->30000+40*(l.length-k)+10<=n->ST l (GT V false) 0 k ((o5.fs n).G7 l k size) ((o5.fs n).G7 l' k size')
 path:∀{k:Nat} {b:Bool},k<=l.length->30000+40*(l.length-k)+5<=n->ST l (GT V true) 0 k ((o5.fs n).P6 b l k size) ((o5.fs n).P6 b l' k size')
theorem ht:∀n,HT V l l' size size' n
 | 0=>⟨fun _ h=>by omega,fun _ h=>by omega⟩
 | n+1=>by
  have hl:=C.hl
  have H:=ht n
  refine⟨fun{k} hk hn=>?_,fun{k b} hk hn=>?_⟩
  ·have pr1:=fun{k:Nat} h1 h2=>H.typ (k:=k) h1 h2
   have pr2:=fun{k:Nat} {b:Bool} h1 h2=>H.path (k:=k) (b:=b) h1 h2
   have lp1:=fun{k':Nat} {xs:List Typ} h1 h2 h4 h5=>c0M C (size:=size) (size':=size') (R:=0) (n:=n) (k0:=k) (Φ:=o5.fs n) (fun g1 g2=>H.typ g1 (by omega)) n k' xs h1 h2 (by omega) h4 h5
   intro A Q f f' g g' hok hpan
   show S2 Q (p8 (a0x n (o5.fs n) l k size) f g) (p8 (a0x n (o5.fs n) l' k size') f' g')
   unfold a0x
   exact two
  ·have pr1:=fun{k:Nat} h1 h2=>H.typ (k:=k) h1 h2
   have lp1:=fun{k':Nat} {xs:List Typ} h1 h2 h4 h5=>b7o C (size:=size) (size':=size') (R:=0) (n:=n) (k0:=k) (Φ:=o5.fs n) (fun g1 g2=>H.typ g1 (by omega)) n k' xs h1 h2 (by omega) h4 h5
   have lp2:=fun{k':Nat} {t:Typ} h1 h2 h4 h5=>b7p C (size:=size) (size':=size') (n:=n) (k0:=k) (b:=b) (Φ:=o5.fs n) n k' t h1 h2 (by omega) h4 h5
   intro A Q f f' g g' hok hpan
   show S2 Q (p8 (Z7 n (o5.fs n) b l k size) f g) (p8 (Z7 n (o5.fs n) b l' k size') f' g')
   unfold Z7
   exact two
theorem typ_r {n k:Nat}(hk:k<=l.length)(hn:200000<=n):ST l (GT V false) 0 k (G7 n l k size) (G7 n l' k size'):=have hl:=C.hl;(ht C n).typ hk (by omega)
theorem path_r {n k:Nat}{b:Bool}(hk:k<=l.length)(hn:200000<=n):ST l (GT V true) 0 k (P6 n b l k size) (P6 n b l' k size'):=have hl:=C.hl;(ht C n).path hk (by omega)
theorem c0f {R0 n k0:Nat}(hn:200000<=n):∀(m k:Nat) (xs ys:List Nod),k0<=k->k<=l.length->l.length<m+k->ers xs=ers ys->szN xs+4*k0<=4*k ->(∀x∈xs,G V 4 x)->LLi l (fun z=>∀x∈z,G V 4 x) k0 (U0 n size l m xs k) (U0 n size' l' m ys k)
 | 0,_,_,_,_,_,_,_,_,_=>by omega
 | m+1,k,xs,ys,h1,h2,h3,h4,h5,h6=>by
  have hl:=C.hl
  have hx:=a1y xs
  have hy:=a3Y h4
  have ih:=fun{k:Nat} {xs ys:List Nod}=>c0f (R0:=R0) (n:=n) (k0:=k0) hn m k xs ys
  have pr1:=fun{k:Nat} (h1:k<=l.length)=>typ_r C (size:=size) (size':=size') (n:=n) h1 hn
  intro A Q f f' g g' hok hpan
  rw[U0.eq_2,U0.eq_2]
  exact two
theorem params_r {n k:Nat}(hk:k<=l.length)(hn:200000<=n):SLi l (fun z=>∀x∈z,G V 4 x) k (a0q n l k size) (a0q n l' k size'):=by
 have hl:=C.hl
 have lp1:=fun{k':Nat} h1 h2=>c0f C (size:=size) (size':=size') (R0:=0) (n:=n) (k0:=k) hn n k' [] [] h1 h2 (by omega) rfl (by simp only[c4g];omega) all_nil
 intro A Q f f' g g' hok hpan
 unfold a0q
 exact two
theorem result_r {n k:Nat}(hk:k<=l.length)(hn:200000<=n):ST l (fun t=>t=uT∨GT V false t) 1 k (a0r n l k size) (a0r n l' k size'):=by
 have hl:=C.hl
 have pr1:=fun{k:Nat} (h1:k<=l.length)=>typ_r C (size:=size) (size':=size') (n:=n) h1 hn
 intro A Q f f' g g' hok hpan
 unfold a0r
 exact two
@[reducible] def LP3 (V:Int->Str->Prop) (l:List Tok) (a a':Int) (k:Nat) {R:Type} (p r:Option (Lr (Int×Int×Str×List Nod) (Rs R (Int×Int)))):Prop:=∀(A:Type) (Q:A->A->Prop) (f f':Int×Int×Str×List Nod->Option A) (g g':Rs R (Int×Int)->Option A),(∀{o:Int} {s:Str} {x y:List Nod} {q:Nat},k<q->q<=l.length->ers x=ers y->szN x+2+4*k<=4*q ->(G V 0 ⟨o,s,0,zT,[],x,a⟩/\PLC ⟨o,s,0,zT,[],x,a⟩)->S2 Q (f ((q:Int),o,s,x)) (f' ((q:Int),o,s,y))) ->(∀{e e':Int} {q:Nat},k<=q->q<=l.length->S2 Q (g (.pan (e,(q:Int)))) (g' (.pan (e',(q:Int)))))->S2 Q (bS p f g) (bS r f' g')
omit C in
theorem c3Z {s u:Str}{o a:Int}{x:List Nod}(hv:V 1 s)(h:G V 0 ⟨o,u,0,zT,[],x,a⟩/\PLC ⟨o,u,0,zT,[],x,a⟩):G V 0 ⟨55,s,0,zT,[],[⟨o,u,0,zT,[],x,a⟩],a⟩/\PLC ⟨55,s,0,zT,[],[⟨o,u,0,zT,[],x,a⟩],a⟩:=⟨.field hv h.1,.fld h.2⟩
omit C in
theorem plc_nm {s:Str}{a:Int}(hv:V 1 s):G V 0 ⟨54,s,0,zT,[],[],a⟩/\PLC ⟨54,s,0,zT,[],[],a⟩:=⟨.name hv,.nm rfl⟩
theorem b5V {R0 n k0:Nat}{a a':Int}:∀(m k:Nat) (o:Int) (s:Str) (xs ys:List Nod),k0<k->k<=l.length->l.length<m+k->ers xs=ers ys->szN xs+2+4*k0<=4*k ->(G V 0 ⟨o,s,0,zT,[],xs,a⟩/\PLC ⟨o,s,0,zT,[],xs,a⟩)->LP3 V l a a' k0 (X8 n a size l m k o s xs) (X8 n a' size' l' m k o s ys)
 | 0,_,_,_,_,_,_,_,_,_,_,_=>by omega
 | m+1,k,o,s,xs,ys,h1,h2,h3,h4,h5,h6=>by
  have hl:=C.hl
  have hx:=a1y xs
  have hy:=a3Y h4
  have ih:=fun{k:Nat} {o:Int} {s:Str} {xs ys:List Nod}=>b5V (R0:=R0) (n:=n) (k0:=k0) (a:=a) (a':=a') m k o s xs ys
  have pf:=fun{s u:Str} {o:Int} {x:List Nod}=>c3Z (V:=V) (s:=s) (u:=u) (o:=o) (a:=a) (x:=x)
  intro A Q f f' g g' hok hpan
  rw[X8.eq_2,X8.eq_2]
  exact two
theorem place_r {n k:Nat}(hk:k<=l.length)(hn:200000<=n):SNi l (fun x=>G V 0 x/\PLC x) k (a0j n l k size) (a0j n l' k size'):=by
 have hl:=C.hl
 have lp1:=fun{a a':Int} {k':Nat} {o:Int} {s:Str} {xs ys:List Nod} h1 h2 h3 h4 h5=>b5V C (size:=size) (size':=size') (R0:=0) (n:=n) (k0:=k) (a:=a) (a':=a') n k' o s xs ys h1 h2 (by omega) h3 h4 h5
 intro A Q f f' g g' hok hpan
 unfold a0j
 exact two
theorem c0v {R0 n k0:Nat}{Φ:p9}(pr1:∀{k:Nat},k<=l.length->k0<k->SNi l (G V 3) k (Φ.H7 l k size) (Φ.H7 l' k size')):∀(m k:Nat) (xs ys:List Nod),k0<=k->k<=l.length->l.length<m+k->ers xs=ers ys->szN xs+4*k0<=4*k ->(∀x∈xs,G V 3 x)->LIi l (fun z=>∀x∈z,G V 3 x) k0 (U2 n Φ size l m k xs) (U2 n Φ size' l' m k ys)
 | 0,_,_,_,_,_,_,_,_,_=>by omega
 | m+1,k,xs,ys,h1,h2,h3,h4,h5,h6=>by
  have hl:=C.hl
  have hx:=a1y xs
  have hy:=a3Y h4
  have ih:=fun{k:Nat} {xs ys:List Nod}=>c0v (R0:=R0) (n:=n) (k0:=k0) (Φ:=Φ) pr1 m k xs ys
  intro A Q f f' g g' hok hpan
  rw[U2.eq_2,U2.eq_2]
  exact two
theorem c2p:∀(n:Nat) {k:Nat},k<=l.length->30000+40*(l.length-k)<=n->SNi l (G V 3) k ((p9.fs n).H7 l k size) ((p9.fs n).H7 l' k size')
 | 0,_,_,h=>by omega
 | n+1,k,hk,hn=>by
  have hl:=C.hl
  have pr1:=fun{k:Nat} h1 h2=>c2p n (k:=k) h1 h2
  have lp1:=fun{k':Nat} {xs ys:List Nod} h1 h2 h3 h4 h5=>c0v C (size:=size) (size':=size') (R0:=0) (n:=n) (k0:=k) (Φ:=p9.fs n) (fun g1 g2=>c2p n g1 (by omega)) n k' xs ys h1 h2 (by omega) h3 h4 h5
  intro A Q f f' g g' hok hpan
  show S2 Q (p8 (D6 n (p9.fs n) l k size) f g) (p8 (D6 n (p9.fs n) l' k size') f' g')
  unfold D6
  exact two
theorem pat_r {n k:Nat}(hk:k<=l.length)(hn:200000<=n):SNi l (G V 3) k (H7 n l k size) (H7 n l' k size'):=have hl:=C.hl;c2p C n hk (by omega)
end
end Go.Proofs.YtjhfloacokgdiaaGreatDoor
