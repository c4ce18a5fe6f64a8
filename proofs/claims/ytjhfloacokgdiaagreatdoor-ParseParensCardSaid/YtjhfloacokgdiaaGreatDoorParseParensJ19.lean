/- Texts of ParseParens, joined. -/
import Derived.Test.YtjhfloacokgdiaaGreatDoorParseParensJ18
set_option maxRecDepth 100000
set_option maxHeartbeats 20000000
set_option linter.unusedSimpArgs false
set_option linter.unusedVariables false
set_option linter.unusedSectionVars false
namespace Go.Proofs.YtjhfloacokgdiaaGreatDoor
open Go Go.Vm
section
variable {V:Int->Str->Prop} {l l':List Tok} {size size':Int} (C:Cx V l l')
include C
@[reducible] def SA (l:List Tok) (P:List Nod->Prop) (k:Nat) (p r:Option (Rs (List Nod×Int) (l7×Int))):Prop:=∀(A:Type) (Q:A->A->Prop) (f f':List Nod×Int->Option A) (g g':l7×Int->Option A),(∀{x y:List Nod} {q:Nat},k+2<=q->q<=l.length->ers x=ers y->szN x+8+4*k<=4*q->x.length<=12000->y.length<=12000->P x->S2 Q (f (x,(q:Int))) (f' (y,(q:Int)))) ->(∀{e e':l7} {q:Nat},k<=q->q<=l.length->e.fault.code=e'.fault.code->e.fault.code≠0->S2 Q (g (e,(q:Int))) (g' (e',(q:Int))))->S2 Q (p8 p f g) (p8 r f' g')
@[reducible] def SO (V:Int->Str->Prop) (l:List Tok) (k:Nat) (p r:Option (Rs (List Nod×Int×Int) (l7×Int))):Prop:=∀(A:Type) (Q:A->A->Prop) (f f':List Nod×Int×Int->Option A) (g g':l7×Int->Option A),(∀{x y:Nod} {a a':Int} {q:Nat},k+1<q->q<=l.length->x.er=y.er->x.sz+4*(k+1)<=4*q->G V 2 x->S2 Q (f ([x],a,(q:Int))) (f' ([y],a',(q:Int)))) ->(∀{e e':l7} {q:Nat},k<=q->q<=l.length->e.fault.code=e'.fault.code->e.fault.code≠0->S2 Q (g (e,(q:Int))) (g' (e',(q:Int))))->S2 Q (p8 p f g) (p8 r f' g')
@[reducible] def LC6 (l:List Tok) (P:Nod->Prop) (i:Int) (k1 k:Nat) {R:Type} (p r:Option (Lr (Int×Int×Nod) (Rs R (l7×Int)))):Prop:=∀(A:Type) (Q:A->A->Prop) (f f':Int×Int×Nod->Option A) (g g':Rs R (l7×Int)->Option A),(∀{x y:Nod} {q:Nat},k<q->k1<=q->q<=l.length->x.er=y.er->x.sz+4*k<=4*q->P x->S2 Q (f (i,(q:Int),x)) (f' (i,(q:Int),y))) ->(∀{e e':l7} {q:Nat},k<=q->q<=l.length->e.fault.code=e'.fault.code->e.fault.code≠0->S2 Q (g (.pan (e,(q:Int)))) (g' (.pan (e',(q:Int)))))->S2 Q (bS p f g) (bS r f' g')
@[reducible] def LC3 (l:List Tok) (P:Nod->Prop) (k:Nat) {R:Type} (p r:Option (Lr (Int×Nod) (Rs R (l7×Int)))):Prop:=∀(A:Type) (Q:A->A->Prop) (f f':Int×Nod->Option A) (g g':Rs R (l7×Int)->Option A),(∀{x y:Nod} {q:Nat},k<q->q<=l.length->x.er=y.er->x.sz+4*k<=4*q->P x->S2 Q (f ((q:Int),x)) (f' ((q:Int),y))) ->(∀{e e':l7} {q:Nat},k<=q->q<=l.length->e.fault.code=e'.fault.code->e.fault.code≠0->S2 Q (g (.pan (e,(q:Int)))) (g' (.pan (e',(q:Int)))))->S2 Q (bS p f g) (bS r f' g')
def TB (tb:List E8):Prop:=tb.length<=5 /\ ∀lv∈tb,lv.ops.length<=10 /\ ∀s∈lv.ops,OP s
omit C in
theorem c2Q:TB [(⟨[[124,124]],false⟩:E8),(⟨[[38,38]],false⟩:E8),(⟨[[61,61],[33,61],[60],[60,61],[62],[62,61]],true⟩:E8),(⟨[[43],[45]],false⟩:E8),(⟨[[42],[47],[37]],false⟩:E8)]:=⟨by decide,by unfold OP;decide⟩
omit C in
theorem TB.drop {tb:List E8}(h:TB tb)(i:Nat):TB (tb.drop i):=⟨by have:=h.1;simp only[List.length_drop];omega,fun lv hl=>h.2 lv (List.mem_of_mem_drop hl)⟩
omit C in
theorem b3b {α:Type}{l:List α}{a b:Nat}(h1:a<=b)(h2:b<=l.length):b0X l (a:Int) (b:Int)=some ((l.take b).drop a):=by
 have h:inI (a:Int) (b:Int) l.length=true:=by simp[inI,h1,h2]
 simp[b0X,h]
omit C in
theorem c3x {n:Nat}{xs:List Str}{v:Str}:∀(m i:Nat),xs.length<m+i->i<=xs.length->xs.length<=1000000 -> ∃r:Int,bS (a0R n xs v m i) (fun _=>some (-1)) some=some r/\leB 0 r=decide (v∈xs.drop i)
 | 0,i,h1,h2,_=>by omega
 | m+1,i,h1,h2,h3=>by
  rw[a0R.eq_2]
  rcases Nat.lt_or_ge i xs.length with h|h
  ·rw[a0v (by omega),a0S h,drop_eq h]
   simp only[NF,a6v]
   by_cases e:v=xs[i]
   ·rw[decide_eq_true e]
    refine⟨_,rfl,?_⟩
    rw[b5u (by omega),decide_eq_true (by rw[<-e];exact List.mem_cons_self)]
   ·rw[decide_eq_false e,F9 (by omega)]
    obtain⟨r,e1,e2⟩:=c3x (n:=n) (xs:=xs) (v:=v) m (i+1) (by omega) (by omega) h3
    refine⟨r,e1,?_⟩
    rw[e2]
    exact decide_eq_decide.2 (by rw[List.mem_cons];exact⟨.inr,fun h=>h.resolve_left e⟩)
  ·rw[a1j (by omega)]
   refine⟨_,rfl,?_⟩
   rw[List.drop_eq_nil_of_le h,b9X (by omega),decide_eq_false (by simp)]
omit C in
theorem a8W {n:Nat}{xs:List Str}{v:Str}(h:xs.length<n)(h2:xs.length<=1000000):O8 n xs v=some (decide (v∈xs)):=by
 obtain⟨r,e1,e2⟩:=c3x (n:=n) (xs:=xs) (v:=v) n 0 (by omega) (by omega) h2
 have e3:a0F n xs v=some r:=by
  unfold a0F
  simp only[NF]
  exact e1
 unfold O8
 rw[e3,Option.bind_some,e2];rfl
omit C in
theorem inv55 {x:Nod}(h:G V 0 x)(ho:x.op=55):∃s y a,x =⟨55,s,0,zT,[],[y],a⟩/\G V 0 y:=by
 cases h with
 | field hs hx=>exact⟨_,_,_,rfl,hx⟩
 | un hu hx =>
  rcases hu with rfl|rfl<;>simp at ho
 | _=>simp at ho
omit C in
theorem c3Y {n:Nat}:∀(m:Nat) (x y:Nod),x.er=y.er->G V 0 x->x.sz<m -> ∃z w,a09 n m x=some z/\a09 n m y=some w/\z.op=w.op/\(z.op=54->PLC x)
 | 0,x,y,_,_,h=>by omega
 | m+1,x,y,he,hG,hs=>by
  rw[a09.eq_2,a09.eq_2]
  obtain⟨h1,_,_,_,_,h6⟩:=a7U he
  by_cases h:x.op=55
  ·obtain⟨s,z,a,rfl,hz⟩:=inv55 hG h
   rcases hy:y.l with _ |⟨w,_ |⟨w2,r⟩⟩
   ·rw[hy]at h6;simp[ers]at h6
   ·rw[hy]at h6
    have h7:z.er=w.er:=by simpa [ers]using h6
    rw[<-h1,a0C (show(55:Int)=55 from rfl)]
    simp only[cond_true]
    rw[show idx' [z] 0=some z from a0S (l:=[z]) (i:=0) Nat.zero_lt_one,show idx' [w] 0=some w from a0S (l:=[w]) (i:=0) Nat.zero_lt_one]
    simp only[NF]
    rw[nsz,a3X]at hs
    obtain⟨p,q,e1,e2,e3,e4⟩:=c3Y m z w h7 hz (by omega)
    exact⟨p,q,e1,e2,e3,fun h=>.fld (e4 h)⟩
   ·rw[hy]at h6;simp[ers]at h6
  ·rw[a1G h,a1G (by rw[<-h1];exact h)]
   exact⟨x,y,rfl,rfl,h1,fun h=>.nm h⟩
theorem t_place {A:Type}{Q:A->A->Prop}{n:Nat}{x y:Nod}{f f':Bool->Option A}(hn:x.sz<n)(he:x.er=y.er)(hG:G V 0 x)(h1:PLC x->S2 Q (f true) (f' true))(h2:S2 Q (f false) (f' false)):S2 Q ((a3f n x).bind f) ((a3f n y).bind f'):=by
 obtain⟨z,w,e1,e2,e3,e4⟩:=c3Y n x y he hG hn
 unfold a3f
 rw[e1,e2]
 simp only[NF,<-e3,a5Y]
 by_cases h:z.op=54
 ·rw[decide_eq_true h];exact h1 (e4 h)
 ·rw[decide_eq_false h];exact h2
structure HE (V:Int->Str->Prop)(l l':List Tok)(size size':Int)(n:Nat):Prop where
 f_block:∀{k:Nat},k<=l.length->200000+40*(l.length-k)+34<=n->SN l (G V 2) k ((d9.fs n).G8 l k size) ((d9.fs n).G8 l' k size')
 f_statement:∀{k:Nat},k<=l.length->200000+40*(l.length-k)+30<=n->SN l (G V 1) k ((d9.fs n).I7 l k size) ((d9.fs n).I7 l' k size')
 f_conditional:∀{k:Nat},k<=l.length->200000+40*(l.length-k)+28<=n->SN l (G V 19) k ((d9.fs n).G9 l k size) ((d9.fs n).G9 l' k size')
 f_local:∀{k:Nat},k<=l.length->200000+40*(l.length-k)+26<=n->SN l (G V 1) k ((d9.fs n).I9 l k size) ((d9.fs n).I9 l' k size')
 f_match:∀{k:Nat},k<=l.length->200000+40*(l.length-k)+26<=n->SN l (G V 1) k ((d9.fs n).O9 l k size) ((d9.fs n).O9 l' k size')
 f_expr:∀{k:Nat},k<=l.length->200000+40*(l.length-k)+20<=n->SN l (G V 0) k ((d9.fs n).C9 l k size) ((d9.fs n).C9 l' k size')
 f_unary:∀{k:Nat},k<=l.length->200000+40*(l.length-k)+13<=n->SN l (G V 0) k ((d9.fs n).J3 l k size) ((d9.fs n).J3 l' k size')
 f_postfix:∀{k:Nat},k<=l.length->200000+40*(l.length-k)+11<=n->SN l (G V 0) k ((d9.fs n).O4 l k size) ((d9.fs n).O4 l' k size')
 f_atom:∀{k:Nat},k<=l.length->200000+40*(l.length-k)+10<=n->SN l (G V 0) k ((d9.fs n).I4 l k size) ((d9.fs n).I4 l' k size')
 f_interp:∀{k:Nat},k<=l.length->200000+40*(l.length-k)+9<=n->SN l (G V 0) k ((d9.fs n).P5 l k size) ((d9.fs n).P5 l' k size')
 f_closure:∀{k:Nat},k<=l.length->200000+40*(l.length-k)+9<=n->SN l (G V 0) k ((d9.fs n).O3 l k size) ((d9.fs n).O3 l' k size')
 f_atomn:∀{k:Nat},isK l 1 k=true->k<=l.length->200000+40*(l.length-k)+10<=n->SN l (fun x=>G V 0 x/\V 1 x.s) k ((d9.fs n).I4 l k size) ((d9.fs n).I4 l' k size')
 f_stmts:∀{k:Nat},k<=l.length->200000+40*(l.length-k)+32<=n->SL l (fun z=>∀x∈z,G V 1 x) k ((d9.fs n).J2 l k size) ((d9.fs n).J2 l' k size')
 f_args:∀{k:Nat},k<=l.length->200000+40*(l.length-k)+9<=n->SA l (fun z=>∀x∈z,G V 6 x) k ((d9.fs n).H9 l k size) ((d9.fs n).H9 l' k size')
 f_one:∀{k:Nat} {op:Int},k<l.length->200000+40*(l.length-k)+26<=n->SO V l k ((d9.fs n).R8 op l k size) ((d9.fs n).R8 op l' k size')
 f_climb:∀{k k0:Nat} {x y:Nod} {tb:List E8},k<=l.length->k0<k->x.er=y.er->x.sz+4*k0<=4*k->G V 0 x->TB tb->200000+40*(l.length-k)+19<=n->SN l (G V 0) k0 ((d9.fs n).I8 x tb l k size) ((d9.fs n).I8 y tb l' k size')
theorem c4f {R0 n k0:Nat}{Φ:d9}(pr1:∀{k:Nat},k<=l.length->k0<=k->SN l (G V 1) k (Φ.I7 l k size) (Φ.I7 l' k size')) :∀(m k:Nat) (xs ys:List Nod),k0<=k->k<=l.length->l.length<m+k->ers xs=ers ys->szN xs+4*k0<=4*k ->(∀x∈xs,G V 1 x)->LLs l (fun z=>∀x∈z,G V 1 x) k0 (Q9 n Φ size l m xs k) (Q9 n Φ size' l' m ys k)
 | 0,_,_,_,_,_,_,_,_,_=>by omega
 | m+1,k,xs,ys,h1,h2,h3,h4,h5,h6=>by
  have hl:=C.hl
  have hx:=a1y xs
  have hy:=a3Y h4
  have ih:=fun{k:Nat} {xs ys:List Nod}=>c4f (R0:=R0) (n:=n) (k0:=k0) (Φ:=Φ) pr1  m k xs ys
  intro A Q f f' g g' hok hpan
  rw[Q9.eq_2,Q9.eq_2]
  exact two
theorem c1d {R0 n k0:Nat}{Φ:d9}(pr1:∀{k:Nat},k<=l.length->k0<k->SN l (G V 0) k (Φ.C9 l k size) (Φ.C9 l' k size')) :∀(m k:Nat) (xs ys:List Nod),k0<=k->k<=l.length->l.length<m+k->ers xs=ers ys->szN xs+4*k0<=4*k ->(∀x∈xs,G V 0 x)->LIs l (fun z=>∀x∈z,G V 0 x) k0 (X7 n Φ size l m k xs) (X7 n Φ size' l' m k ys)
 | 0,_,_,_,_,_,_,_,_,_=>by omega
 | m+1,k,xs,ys,h1,h2,h3,h4,h5,h6=>by
  have hl:=C.hl
  have hx:=a1y xs
  have hy:=a3Y h4
  have ih:=fun{k:Nat} {xs ys:List Nod}=>c1d (R0:=R0) (n:=n) (k0:=k0) (Φ:=Φ) pr1  m k xs ys
  intro A Q f f' g g' hok hpan
  rw[X7.eq_2,X7.eq_2]
  exact two
theorem args_l {R0 n k0:Nat}{Φ:d9}(pr1:∀{k:Nat},k<=l.length->k0<=k->SN l (G V 0) k (Φ.C9 l k size) (Φ.C9 l' k size'))(hn:200000<=n):∀(m k:Nat) (xs ys:List Nod),k0<=k->k<=l.length->l.length<m+k->ers xs=ers ys->szN xs+4*k0<=4*k ->(∀x∈xs,G V 6 x)->LLs l (fun z=>∀x∈z,G V 6 x) k0 (Y6 n Φ size l m xs k) (Y6 n Φ size' l' m ys k)
 | 0,_,_,_,_,_,_,_,_,_=>by omega
 | m+1,k,xs,ys,h1,h2,h3,h4,h5,h6=>by
  have hl:=C.hl
  have hx:=a1y xs
  have hy:=a3Y h4
  have ih:=fun{k:Nat} {xs ys:List Nod}=>args_l (R0:=R0) (n:=n) (k0:=k0) (Φ:=Φ) pr1 hn m k xs ys
  have pr2:=fun{k:Nat} (h1:k<=l.length)=>place_r C (size:=size) (size':=size') (n:=n) h1 hn
  intro A Q f f' g g' hok hpan
  rw[Y6.eq_2,Y6.eq_2]
  exact two
theorem c3J {R0 n k0:Nat}{Φ:d9}(pr1:∀{k:Nat},k<=l.length->k0<k->SN l (G V 2) k (Φ.G8 l k size) (Φ.G8 l' k size'))(hn:200000<=n):∀(m k:Nat) (xs ys:List Nod),k0<=k->k<=l.length->l.length<m+k->ers xs=ers ys->szN xs+4*k0<=4*k->MTX V xs->LIs l (MTX V) k0 (U3 n Φ size l m k xs) (U3 n Φ size' l' m k ys)
 | 0,_,_,_,_,_,_,_,_,_=>by omega
 | m+1,k,xs,ys,h1,h2,h3,h4,h5,h6=>by
  have hl:=C.hl
  have hx:=a1y xs
  have hy:=a3Y h4
  have ih:=fun{k:Nat} {xs ys:List Nod}=>c3J (R0:=R0) (n:=n) (k0:=k0) (Φ:=Φ) pr1 hn m k xs ys
  have pr2:=fun{k:Nat} (h1:k<=l.length)=>pat_r C (size:=size) (size':=size') (n:=n) h1 hn
  intro A Q f f' g g' hok hpan
  rw[U3.eq_2,U3.eq_2]
  exact two
theorem b9M {R0 n k0:Nat}{Φ:d9}(pr1:∀{k:Nat},k<=l.length->k0<k->SN l (G V 0) k (Φ.C9 l k size) (Φ.C9 l' k size')):∀(m k:Nat) (xs ys:List Nod) (s:Str) (a a' a0 a0':Int),k0<k->k<=l.length->l.length<m+k->ers xs=ers ys->szN xs+2+4*k0<=4*k->INX V xs->SN l (G V 0) k0 (V4 n Φ a0 size l m k xs s a) (V4 n Φ a0' size' l' m k ys s a')
 | 0,_,_,_,_,_,_,_,_,_,_,_,_,_,_=>by omega
 | m+1,k,xs,ys,s,a,a',a0,a0',h1,h2,h3,h4,h5,h6=>by
  have hl:=C.hl
  have hx:=a1y xs
  have hy:=a3Y h4
  have ih:=fun{k:Nat} {xs ys:List Nod} {s:Str} {a a' a0 a0':Int}=>b9M (R0:=R0) (n:=n) (k0:=k0) (Φ:=Φ) pr1 m k xs ys s a a' a0 a0'
  intro A Q f f' g g' hok hpan
  rw[V4.eq_2,V4.eq_2]
  exact two
theorem post0 {R0 n k0:Nat}{Φ:d9}(pr1:∀{k:Nat},k<=l.length->k0<k->SA l (fun z=>∀x∈z,G V 6 x) k (Φ.H9 l k size) (Φ.H9 l' k size')):∀(m k:Nat) (x y:Nod),k0<k->k<=l.length->l.length<m+k->x.er=y.er->x.sz+4*k0<=4*k->G V 0 x->SN l (G V 0) k0 (H8 n Φ size l m false k x) (H8 n Φ size' l' m false k y)
 | 0,_,_,_,_,_,_,_,_,_=>by omega
 | m+1,k,x,y,h1,h2,h3,h4,h5,h6=>by
  have hl:=C.hl
  have hz:=x.a3w
  have ih:=fun{k:Nat} {x y:Nod}=>post0 (R0:=R0) (n:=n) (k0:=k0) (Φ:=Φ) pr1 m k x y
  intro A Q f f' g g' hok hpan
  rw[H8.eq_2,H8.eq_2]
  exact two
theorem post1 {R0 n k0:Nat}{Φ:d9}(pr1:∀{k:Nat},k<=l.length->k0<k->SA l (fun z=>∀x∈z,G V 6 x) k (Φ.H9 l k size) (Φ.H9 l' k size')):∀(m k:Nat) (x y:Nod),k0<k->k<=l.length->l.length<m+k->x.er=y.er->x.sz+4*k0<=4*k->G V 0 x->V 1 x.s->SN l (G V 0) k0 (H8 n Φ size l m true k x) (H8 n Φ size' l' m true k y)
 | 0,_,_,_,_,_,_,_,_,_,_=>by omega
 | m+1,k,x,y,h1,h2,h3,h4,h5,h6,h7=>by
  have hl:=C.hl
  have hz:=x.a3w
  have ih:=fun{k:Nat} {x y:Nod}=>post0 C (size:=size) (size':=size') (R0:=R0) (n:=n) (k0:=k0) (Φ:=Φ) pr1 m k x y
  intro A Q f f' g g' hok hpan
  rw[H8.eq_2,H8.eq_2]
  exact two
theorem b9t {n k0 k1:Nat}{Φ:d9}(pr1:∀{k:Nat},k<=l.length->k1<k->SN l (G V 0) k (Φ.J3 l k size) (Φ.J3 l' k size'))(pc1:∀{k k0:Nat} {x y:Nod} {tb:List E8},k<=l.length->k0<k->x.er=y.er->x.sz+4*k0<=4*k->G V 0 x->TB tb->k1<k->SN l (G V 0) k0 (Φ.I8 x tb l k size) (Φ.I8 y tb l' k size')){tb:List E8}(ht:TB tb){i:Int}{j:Nat}(hj:j<tb.length)(hn:200000<=n):∀(m k:Nat) (x y:Nod),k0<k->k1<=k->k<=l.length->l.length<m+k->x.er=y.er->x.sz+4*k0<=4*k->G V 0 x->LC6 l (G V 0) i k1 k0 (O5 n Φ size tb l m j i k x) (O5 n Φ size' tb l' m j i k y)
 | 0,_,_,_,_,_,_,_,_,_,_=>by omega
 | m+1,k,x,y,h1,h0,h2,h3,h4,h5,h6=>by
  have hl:=C.hl
  have hz:=x.a3w
  have ih:=fun{k:Nat} {x y:Nod}=>b9t (k0:=k0) (k1:=k1) (Φ:=Φ) pr1 pc1 ht (i:=i) hj hn m k x y
  have pc1:=fun{k':Nat} {x y:Nod} {tb:List E8} h1 h2 h3 h4 h5 h6 h7=>pc1 (k:=k') (k0:=k+1) (x:=x) (y:=y) (tb:=tb) h1 h2 h3 h4 h5 h6 h7
  obtain⟨t1,t2⟩:=ht.2 _ (List.getElem_mem hj)
  have hlv:idx' tb (j:Int)=some tb[j]:=a0S hj
  have hd:=ht.drop (j+1)
  have ht1:=ht.1
  have hsub:b0X tb (((j+1:Nat):Int)) (tb.length:Int)=some (tb.drop (j+1)):=by rw[b3b (by omega) (Nat.le_refl _),List.take_length]
  have hc:∀v,O8 n tb[j].ops v=some (decide (v∈tb[j].ops)):=fun v=>a8W (by omega) (by omega)
  intro A Q f f' g g' hok hpan
  rw[O5.eq_2,O5.eq_2]
  rcases Nat.lt_or_ge k l.length with h|h
  ·rw[a0v (show(k:Int)<(l.length:Int)by omega),a0v (show(k:Int)<(l'.length:Int)by rw[C.ln];omega)]
   have e1:idx' l (k:Int)=some (a1h l k):=a04 h
   have e2:idx' l' (k:Int)=some (a1h l' k):=a04 (by rw[C.ln];exact h)
   simp only[e1,e2,NF,hlv,hc,C.kd,C.tx]
   cases hk8:eqB (a1h l k).kind 8
   ·simp only[NF]
    exact two
   ·simp only[NF]
    by_cases ho:(a1h l k).text∈tb[j].ops
    ·have hop:=t2 _ ho
     rw[decide_eq_true ho]
     have fin:=And.intro (F9 (show j<=1000000000000 by omega)) hsub
     simp only[NF,F9 (show j<=1000000000000 by omega),hsub]
     cases ho1:tb[j].once
     ·exact two
     ·exact two
    ·rw[decide_eq_false ho]
     exact two
  ·rw[a1j (show ¬(k:Int)<(l.length:Int)by omega),a1j (show ¬(k:Int)<(l'.length:Int)by rw[C.ln];omega)]
   exact two
theorem b9s {n k0 k1:Nat}{Φ:d9}(pr1:∀{k:Nat},k<=l.length->k1<k->SN l (G V 0) k (Φ.J3 l k size) (Φ.J3 l' k size'))(pc1:∀{k k0:Nat} {x y:Nod} {tb:List E8},k<=l.length->k0<k->x.er=y.er->x.sz+4*k0<=4*k->G V 0 x->TB tb->k1<k->SN l (G V 0) k0 (Φ.I8 x tb l k size) (Φ.I8 y tb l' k size')){tb:List E8}(ht:TB tb)(hn:400000<=n+200000):∀(m i k:Nat) (x y:Nod),i<=tb.length->tb.length<m+i->k0<k->k1<=k->k<=l.length->x.er=y.er->x.sz+4*k0<=4*k->G V 0 x->LC3 l (G V 0) k0 (Q5 n Φ tb size l m i k x) (Q5 n Φ tb size' l' m i k y)
 | 0,_,_,_,_,_,_,_,_,_,_,_,_=>by omega
 | m+1,i,k,x,y,g1,g2,h1,h0,h2,h4,h5,h6=>by
  have hl:=C.hl
  have ht1:=ht.1
  have ih:=fun{k:Nat} {x y:Nod} (g3:i+1<=tb.length)=>b9s (k0:=k0) (k1:=k1) (Φ:=Φ) pr1 pc1 ht hn m (i+1) k x y g3 (by omega)
  intro A Q f f' g g' hok hpan
  rw[Q5.eq_2,Q5.eq_2]
  rcases Nat.lt_or_ge i tb.length with h|h
  ·rw[a0v (show(i:Int)<(tb.length:Int)by omega)]
   have e:w64 (w64 ((tb.length:Int)-1)-(i:Int)) =((tb.length-1-i:Nat):Int):=by rw[a5v (a:=(tb.length:Int)-1) (by omega) (by omega),a5v (by omega) (by omega)];omega
   have lp1:=fun{k:Nat} {x y:Nod} h1 h0 h2 h3 h4 h5=>b9t C (size:=size) (size':=size') (n:=n) (k0:=k0) (k1:=k1) (Φ:=Φ) pr1 pc1 ht (i:=(i:Int)) (j:=tb.length-1-i) (by omega) (by omega) n k x y h1 h0 h2 (by omega) h3 h4 h5
   simp only[e,NF]
   exact two
  ·rw[a1j (show ¬(i:Int)<(tb.length:Int)by omega)]
   exact two
end
end Go.Proofs.YtjhfloacokgdiaaGreatDoor
