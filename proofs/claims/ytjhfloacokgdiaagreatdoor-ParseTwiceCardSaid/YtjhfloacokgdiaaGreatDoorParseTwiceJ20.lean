/- Texts of ParseTwice, joined. -/
import Derived.Test.YtjhfloacokgdiaaGreatDoorParseTwiceJ19
set_option maxRecDepth 100000
set_option maxHeartbeats 20000000
set_option linter.all false
namespace Go.Proofs.YtjhfloacokgdiaaGreatDoor
open Go Go.Vm
section
variable {V:Int->Str->Prop} {l:List Tok} {size:Int} (C:Cx V l)
include C
def TB (tb:List G6):Prop:=tb.length<=5 /\ ∀lv∈tb,lv.ops.length<=10 /\ ∀s∈lv.ops,OP s
omit C in
theorem c5a:TB [(⟨[[124,124]],false⟩:G6),(⟨[[38,38]],false⟩:G6),(⟨[[61,61],[33,61],[60],[60,61],[62],[62,61]],true⟩:G6),(⟨[[43],[45]],false⟩:G6),(⟨[[42],[47],[37]],false⟩:G6)]:=⟨by decide,by unfold OP;decide⟩
omit C in
theorem TB.drop {tb:List G6}(h:TB tb)(i:Nat):TB (tb.drop i):=⟨by have:=h.1;simp only[List.length_drop];omega,fun lv hl=>h.2 lv (List.mem_of_mem_drop hl)⟩
omit C in
theorem b4Y {α:Type}{l:List α}{a b:Nat}(h1:a<=b)(h2:b<=l.length):b2Y l (a:Int) (b:Int)=some ((l.take b).drop a):=by
 have h:inI (a:Int) (b:Int) l.length=true:=by simp[inI,h1,h2]
 simp[b2Y,h]
omit C in
theorem c5Q {n:Nat}{xs:List Str}{v:Str}:∀(m i:Nat),xs.length<m+i->i<=xs.length->xs.length<=1000000 -> ∃r:Int,bS (a1q n xs v m i) (fun _=>some (-1)) some=some r/\leB 0 r=decide (v∈xs.drop i)
 | 0,i,h1,h2,_=>by omega
 | m+1,i,h1,h2,h3=>by
  rw[a1q.eq_2];rcases Nat.lt_or_ge i xs.length with h|h
  ·rw[X6 (by omega),a0k h,drop_eq h];simp only[NF,b6Y];by_cases e:v=xs[i]
   ·rw[decide_eq_true e];refine⟨_,rfl,?_⟩;rw[b9d (by omega),decide_eq_true (by rw[<-e];exact List.mem_cons_self)]
   ·rw[decide_eq_false e,H6 (by omega)];obtain⟨r,e1,e2⟩:=c5Q (n:=n) (xs:=xs) (v:=v) m (i+1) (by omega) (by omega) h3;refine⟨r,e1,?_⟩;rw[e2];exact decide_eq_decide.2 (by rw[List.mem_cons];exact⟨.inr,fun h=>h.resolve_left e⟩)
  ·rw[a0C (by omega)];refine⟨_,rfl,?_⟩;rw[List.drop_eq_nil_of_le h,c2n (by omega),decide_eq_false (by simp)]
omit C in
theorem a8I {n:Nat}{xs:List Str}{v:Str}(h:xs.length<n)(h2:xs.length<=1000000):J4 n xs v=some (decide (v∈xs)):=by
 obtain⟨r,e1,e2⟩:=c5Q (n:=n) (xs:=xs) (v:=v) n 0 (by omega) (by omega) h2;have e3:a05 n xs v=some r:=by
  unfold a05;simp only[NF];exact e1
 unfold J4;rw[e3,Option.bind_some,e2];rfl
omit C in
theorem inv55 {x:Nod}(h:G V 0 x)(ho:x.op=55):∃s y a,x =⟨55,s,0,zT,[],[y],a⟩/\G V 0 y:=by
 cases h with
 | field hs hx=>exact⟨_,_,_,rfl,hx⟩
 | un hu hx =>
  rcases hu with rfl|rfl<;>simp at ho
 | _=>simp at ho
omit C in
theorem c6m {n:Nat}:∀(m:Nat) (x:Nod),G V 0 x->x.sz<m -> ∃z,a2S n m x=some z/\(z.op=54->PLC x)
 | 0,x,_,h=>by omega
 | m+1,x,hG,hs=>by
  rw[a2S.eq_2];by_cases h:x.op=55
  ·obtain⟨s,z,a,rfl,hz⟩:=inv55 hG h;rw[a0z (show(55:Int)=55 from rfl),cond_true,show idx' [z] 0=some z from a0k (l:=[z]) (i:=0) Nat.zero_lt_one];rw[nsz,a4V]at hs;obtain⟨p,e1,e4⟩:=c6m m z hz (by omega);exact⟨p,e1,fun h=>.fld (e4 h)⟩
  ·rw[a1t h];exact⟨x,rfl,fun h=>.nm h⟩
omit C in
theorem t_place {A:Type}{Q:A->Prop}{n:Nat}{x:Nod}{f:Bool->Option A}(hn:x.sz<n)(hG:G V 0 x)(h1:PLC x->S1 Q (f true))(h2:S1 Q (f false)):S1 Q ((a4Q n x).bind f):=by
 obtain⟨z,e1,e4⟩:=c6m n x hG hn;unfold a4Q;rw[e1];simp only[NF,a9m];by_cases h:z.op=54
 ·rw[decide_eq_true h];exact h1 (e4 h)
 ·rw[decide_eq_false h];exact h2
@[reducible] def HN (V:Int->Str->Prop) (l:List Tok) (size:Int) (n r:Nat) (P:Nod->Prop) (F:j3->List Tok->Int->Int->Option (Rs (Nod×Int) (o6×Int))):Prop:=∀{k:Nat},k<=l.length->200000+40*(l.length-k)+r<=n->SN l P k (F (j3.fs n) l k size)
structure HE (V:Int->Str->Prop)(l:List Tok)(size:Int)(n:Nat):Prop where
 f_block:HN V l size n 34 (G V 2) j3.G7
 f_statement:HN V l size n 30 (G V 1) j3.O4
 f_conditional:HN V l size n 28 (G V 19) j3.J6
 f_local:HN V l size n 26 (G V 1) j3.K6
 f_match:HN V l size n 26 (G V 1) j3.U2
 f_expr:HN V l size n 20 (G V 0) j3.G9
 f_unary:HN V l size n 13 (G V 0) j3.P8
 f_postfix:HN V l size n 11 (G V 0) j3.Q9
 f_atom:HN V l size n 10 (G V 0) j3.N7
 f_interp:HN V l size n 9 (G V 0) j3.U6
 f_closure:HN V l size n 9 (G V 0) j3.Q8
 f_atomn:∀{k:Nat},isK l 1 k=true->k<=l.length->200000+40*(l.length-k)+10<=n->SN l (fun x=>G V 0 x/\V 1 x.s) k ((j3.fs n).N7 l k size)
 f_stmts:∀{k:Nat},k<=l.length->200000+40*(l.length-k)+32<=n->SL l k (∀x ∈ ·,G V 1 x) ((j3.fs n).M4 l k size)
 f_args:∀{k:Nat},k<=l.length->200000+40*(l.length-k)+9<=n->SE l k (fun c=>∀{x:List Nod} {q:Nat},k+2<=q->q<=l.length->szN x+8+4*k<=4*q->x.length<=4*q ->(∀y∈x,G V 6 y)->c (x,(q:Int))) ((j3.fs n).O3 l k size)
 f_one:∀{k:Nat} {op:Int},k<l.length->200000+40*(l.length-k)+26<=n->SE l k (fun c=>∀{x:Nod} {a:Int} {q:Nat},k+1<q->q<=l.length->x.sz+4*(k+1)<=4*q->G V 2 x->c ([x],a,(q:Int))) ((j3.fs n).V7 op l k size)
 f_climb:∀{k k0:Nat} {x:Nod} {tb:List G6},k<=l.length->k0<k->x.sz+4*k0<=4*k->G V 0 x->TB tb->200000+40*(l.length-k)+19<=n->SN l (G V 0) k0 ((j3.fs n).P6 x tb l k size)
section
variable {n:Nat} (H:HE V l size n) {k0:Nat}
include H
theorem stmts_l (hn:200000+40*(l.length-k0)+30<=n):∀m,LP l m k0 (∀x ∈ ·,G V 1 x) (LLs l) fun k xs=>X3 n (j3.fs n) size l m xs k:=lpI fun m ih k xs h1 h2 h3 h4 h5=>by
 simp only[X3];exact two
theorem atom_l (hn:200000+40*(l.length-k0)<=n+20):∀m,LP l m k0 (∀x ∈ ·,G V 0 x) (LIs l) fun k xs=>a0I n (j3.fs n) size l m k xs:=lpI fun m ih k xs h1 h2 h3 h4 h5=>by
 simp only[a0I];exact two
theorem args_l (hn:200000+40*(l.length-k0)+20<=n):∀m,LP l m k0 (∀x ∈ ·,G V 6 x) (LLs l) fun k xs=>a0R n (j3.fs n) size l m xs k:=lpI fun m ih k xs h1 h2 h3 h4 h5=>by
 simp only[a0R];exact two
theorem match_l (hn:200000+40*(l.length-k0)+14<=n):∀m,LP l m k0 (MTX V) (LIs l) fun k xs=>a0K n (j3.fs n) size l m k xs:=lpI fun m ih k xs h1 h2 h3 h4 h5=>by
 simp only[a0K];exact two
theorem c2b (hn:200000+40*(l.length-k0)<=n+20){a0:Int}:∀(m:Nat) {k:Nat} {xs:List Nod} {s:Str} {a:Int},k0<k->k<=l.length->l.length<m+k->szN xs+2+4*k0<=4*k->INX V xs->SN l (G V 0) k0 (a0w n (j3.fs n) a0 size l m k xs s a)
 | 0,_,_,_,_,_,_,_,_,_=>by omega
 | m+1,k,xs,s,a,h1,h2,h3,h4,h5=>by
  have ih:=fun{k xs s a}=>c2b hn (a0:=a0) m (k:=k) (xs:=xs) (s:=s) (a:=a);rw[a0w.eq_2];exact two
theorem post0 (hn:200000+40*(l.length-k0)<=n+20):∀(m:Nat) {k:Nat} {x:Nod},k0<k->k<=l.length->l.length<m+k->x.sz+4*k0<=4*k->G V 0 x->SN l (G V 0) k0 (M0 n (j3.fs n) size l m false k x)
 | 0,_,_,_,_,_,_,_=>by omega
 | m+1,k,x,h1,h2,h3,h4,h5=>by
  have ih:=fun{k x}=>post0 hn m (k:=k) (x:=x);rw[M0.eq_2];exact two
theorem post1 (hn:200000+40*(l.length-k0)<=n+20):∀(m:Nat) {k:Nat} {x:Nod},k0<k->k<=l.length->l.length<m+k->x.sz+4*k0<=4*k ->(G V 0 x/\V 1 x.s)->SN l (G V 0) k0 (M0 n (j3.fs n) size l m true k x)
 | 0,_,_,_,_,_,_,_=>by omega
 | m+1,k,x,h1,h2,h3,h4,⟨h5,h6⟩=>by
  have ih:=fun{k x}=>post0 C H hn m (k:=k) (x:=x);rw[M0.eq_2];exact two
theorem c1I {k1:Nat}{tb:List G6}(ht:TB tb){i:Int}{j:Nat}(hj:j<tb.length)(hn:200000+40*(l.length-k1)+19<=n+1):∀(m:Nat) {k:Nat} {x:Nod},k0<k->k1<=k->k<=l.length->l.length<m+k->x.sz+4*k0<=4*k->G V 0 x->LX l k0 (R:=Nod×Int) (fun c=>∀{x:Nod} {q:Nat},k0<q->k1<=q->q<=l.length->x.sz+4*k0<=4*q->G V 0 x->c (i,(q:Int),x)) (O7 n (j3.fs n) size tb l m j i k x)
 | 0,_,_,_,_,_,_,_,_=>by omega
 | m+1,k,x,h1,h0,h2,h3,h5,h6=>by
  have ih:=fun{k x}=>c1I (k1:=k1) ht (i:=i) hj hn m (k:=k) (x:=x);have pc1:=fun{k' x tb}=>H.f_climb (k:=k') (k0:=k+1) (x:=x) (tb:=tb);obtain⟨t1,t2⟩:=ht.2 _ (List.getElem_mem hj);have hlv:idx' tb (j:Int)=some tb[j]:=a0k hj;have hd:=ht.drop (j+1);have ht1:=ht.1;have hsub:b2Y tb (((j+1:Nat):Int)) (tb.length:Int)=some (tb.drop (j+1)):=by rw[b4Y (by omega) (Nat.le_refl _),List.take_length]
  have hc:∀v,J4 n tb[j].ops v=some (decide (v∈tb[j].ops)):=fun v=>a8I (by omega) (by omega);intro A Q f g hok hpan;rw[O7.eq_2];rcases Nat.lt_or_ge k l.length with h|h
  ·rw[X6 (by omega)];simp only[a4Y h,NF,hlv,hc];cases hk8:eqB (a3x l k).kind 8
   ·simp only[NF];exact two
   ·simp only[NF];by_cases ho:(a3x l k).text∈tb[j].ops
    ·have hop:=t2 _ ho;rw[decide_eq_true ho];have fin:=And.intro (H6 (show j<=1000000000000 by omega)) hsub;simp only[NF,fin];cases ho1:tb[j].once<;>exact two
    ·rw[decide_eq_false ho];exact two
  ·rw[a0C (by omega)];exact two
theorem c1H {k1:Nat}{tb:List G6}(ht:TB tb)(hn:200000+40*(l.length-k1)+19<=n+1):∀(m i:Nat) {k:Nat} {x:Nod},i<=tb.length->tb.length<m+i->k0<k->k1<=k->k<=l.length->x.sz+4*k0<=4*k->G V 0 x->LX l k0 (R:=Nod×Int) (fun c=>∀{x:Nod} {q:Nat},k0<q->q<=l.length->x.sz+4*k0<=4*q->G V 0 x->c ((q:Int),x)) (S9 n (j3.fs n) tb size l m i k x)
 | 0,_,_,_,_,_,_,_,_,_,_=>by omega
 | m+1,i,k,x,g1,g2,h1,h0,h2,h5,h6=>by
  have hl:=C.hl;have ht1:=ht.1;have ih:=fun{k x}=>c1H (k1:=k1) ht hn m (i+1) (k:=k) (x:=x);intro A Q f g hok hpan;rw[S9.eq_2];rcases Nat.lt_or_ge i tb.length with h|h
  ·rw[X6 (by omega)];have e:w64 (w64 ((tb.length:Int)-1)-(i:Int)) =((tb.length-1-i:Nat):Int):=by rw[a4m (a:=(tb.length:Int)-1) (by omega) (by omega),a4m (by omega) (by omega)];omega
   have lp1:=fun{k x}=>c1I C H (k0:=k0) (k1:=k1) ht (i:=(i:Int)) (j:=tb.length-1-i) (by omega) hn n (k:=k) (x:=x);simp only[e,NF];exact two
  ·rw[a0C (by omega)];exact two
end
theorem he:∀n,HE V l size n
 | 0=>by constructor<;>(intros;omega)
 | n+1=>by
  have H:=he n;constructor
  ·intro k hk hn;simp only[j3.fs,a1v];exact two
  ·intro k hk hn;simp only[j3.fs,A9];exact two
  ·intro k hk hn;simp only[j3.fs,M7];exact two
  ·intro k hk hn;simp only[j3.fs,M5];exact two
  ·intro k hk hn;simp only[j3.fs,a1w];exact two
  ·intro k hk hn;have fin:=show a5c=some ()from rfl;have pc1:=fun{k' x tb}=>H.f_climb (k:=k') (k0:=k) (x:=x) (tb:=tb);simp only[j3.fs,a0E];exact two
  ·intro k hk hn;simp only[j3.fs,a0p];exact two
  ·intro k hk hn A Q f g hok hpan;have hl:=C.hl;simp only[j3.fs,Q7,NF];refine t_isK hl hk (k_if (fun _ _=>?_) fun _=>?_)<;>exact two
  ·intro k hk hn;simp only[j3.fs,D7];exact two
  ·intro k hk hn;simp only[j3.fs,a1e];exact two
  ·intro k hk hn;simp only[j3.fs,a0Y];exact two
  ·intro k _ hk hn;simp only[j3.fs,D7];exact two
  ·intro k hk hn;simp only[j3.fs,a0q];exact two
  ·intro k hk hn;simp only[j3.fs,a1S];exact two
  ·intro k op hk hn;simp only[j3.fs,a19];exact two
  ·intro k k0 x tb hk h0 hs hG ht hn;have lp1:=fun{k' x}=>c1H C H (k0:=k0) (k1:=k) ht (by omega) n 0 (k:=k') (x:=x) (Nat.zero_le _) (by have:=ht.1;omega);simp only[Int.natCast_zero]at lp1;simp only[j3.fs,a0m];exact two
theorem block_r {n k:Nat}(hk:k<=l.length)(hn:400000<=n):SN l (G V 2) k (G7 n l k size):=have hl:=C.hl;(he C n).f_block hk (by omega)
end
variable {k k0 n:Nat}
section
variable {V:Int->Str->Prop} {l:List Tok} {size:Int} (C:Cx V l)
include C
theorem c4b (hk:k<=l.length)(hn:400000<=n):SN l (G V 11) k (Z8 n l k size):=by
 unfold Z8;exact two
theorem b80 {n:Nat}(hn:400000<=n):∀(m:Nat) {k:Nat} {xs:List Nod},k<=l.length->l.length<m+k->szN xs<=4*k->EXA V xs->LX l k (R:=Nod×Int) (fun c=>∀{x:List Nod} {q:Nat},k<=q->q<=l.length->szN x+4*k<=szN xs+4*q->EXA V x->c ((q:Int),x)) (a0u n size l m k xs)
 | 0,_,_,_,_,_,_=>by omega
 | m+1,k,xs,h2,h3,h5,h6=>by
  have ih:=fun{k xs}=>b80 hn m (k:=k) (xs:=xs);rw[a0u.eq_2];exact two
theorem b65 {n:Nat}(hn:400000<=n):∀(m:Nat) {k:Nat} {xs:List Nod},k<=l.length->l.length<m+k->szN xs<=4*k->EXX V xs->LX l k (R:=Nod×Int) (fun c=>∀{x:List Nod} {q:Nat},k<=q->q<=l.length->szN x+4*k<=szN xs+4*q->EXX V x->c ((q:Int),x)) (a0f n size l m k xs)
 | 0,_,_,_,_,_,_=>by omega
 | m+1,k,xs,h2,h3,h5,h6=>by
  have ih:=fun{k xs}=>b65 hn m (k:=k) (xs:=xs);rw[a0f.eq_2];exact two
theorem extend_r (hk:k<=l.length)(hn:400000<=n):SN l (G V 18) k (a08 n l k size):=by
 unfold a08;exact two
theorem c6X (hn:400000<=n):∀m,LP l m k0 (∀x ∈ ·,G V 13 x) (LLs l) fun k xs=>a0v n size l m xs k:=lpI fun m ih k xs h1 h2 h3 h4 h5=>by
 simp only[a0v];exact two
theorem fields_r (hk:k<=l.length)(hn:400000<=n):SL l k (FDX V) (a0F n l k size):=by
 unfold a0F;exact two
theorem b8U {n k1:Nat}{xs:List Nod}{d:Int}(hn:400000<=n):∀(m:Nat) {k:Nat} {t:List Typ},k1<=k->k<=l.length->l.length<m+k->szT t+k1<=k ->(∀x∈t,GT V false x)->LI l k1 (R:=List Nod×Int) (fun c=>∀{t:List Typ} {q:Nat},k1<=q->q<=l.length->szT t+k1<=q ->(∀x∈t,GT V false x)->c (xs,(q:Int),d,t)) (a0t n size l m xs k d t)
 | 0,_,_,_,_,_,_,_=>by omega
 | m+1,k,t,h1,h2,h3,h4,h5=>by
  have hx:=a5H t;have ih:=fun{k t}=>b8U (k1:=k1) (xs:=xs) (d:=d) hn m (k:=k) (t:=t);rw[a0t.eq_2];exact two
theorem cases_l3 (hn:400000<=n):∀m,LP l m k0 (∀x ∈ ·,G V 15 x) (LLi l) fun k xs=>a0J n size l m xs k:=lpI fun m ih k xs h1 h2 h3 h4 h5=>by
 simp only[a0J];exact two
theorem cases_r (hk:k<=l.length)(hn:400000<=n):SLi l k (∀x ∈ ·,G V 15 x) (a1s n l k size):=by
 unfold a1s;exact two
theorem decl_r (hk:k<=l.length)(hn:400000<=n):SN l (G V 18) k (M8 n l k size):=by
 have fin:w64 (0+1)=1/\w64 (1+2)=3/\w64 (0+2)=2/\IntKind.wrap .i64 ((BitVec.ofInt 64 0 &&& BitVec.ofInt 64 1).toNat:Nat)=0/\IntKind.wrap .i64 ((BitVec.ofInt 64 1 &&& BitVec.ofInt 64 1).toNat:Nat)=1/\IntKind.wrap .i64 ((BitVec.ofInt 64 2 &&& BitVec.ofInt 64 1).toNat:Nat)=0/\IntKind.wrap .i64 ((BitVec.ofInt 64 3 &&& BitVec.ofInt 64 1).toNat:Nat)=1:=by
  refine⟨by decide,by decide,by decide,?_,?_,?_,?_⟩<;>first|rfl|decide|simp[IntKind.wrap,IntKind.bits,IntKind.signed]
 unfold M8;exact two
end
variable {n:Nat}
mutual
def Nod.cnt:Nod->Nat
 |⟨_,_,_,_,_,l,_⟩=>1+a2K l
def a2K:List Nod->Nat
 | []=>0
 | x::r=>x.cnt+a2K r
end
mutual
def Nod.dep:Nod->Nat
 |⟨_,_,_,_,_,l,_⟩=>b0J l+1
def b0J:List Nod->Nat
 | []=>0
 | x::r=>max x.dep (b0J r)
end
theorem Nod.cnt_eq (x:Nod):x.cnt=1+a2K x.l:=by cases x;rfl
theorem Nod.dep_eq (x:Nod):x.dep=b0J x.l+1:=by cases x;rfl
mutual
theorem c3Q:∀x:Nod,x.er.cnt=x.cnt
 |⟨_,_,_,_,_,l,_⟩=>by rw[Nod.er,Nod.cnt,Nod.cnt,b6i l]
theorem b6i:∀l:List Nod,a2K (ers l)=a2K l
 | []=>rfl
 | x::r=>by rw[ers,a2K,a2K,c3Q x,b6i r]
end
mutual
theorem c3T:∀x:Nod,x.er.dep=x.dep
 |⟨_,_,_,_,_,l,_⟩=>by rw[Nod.er,Nod.dep,Nod.dep,b6k l]
theorem b6k:∀l:List Nod,b0J (ers l)=b0J l
 | []=>rfl
 | x::r=>by rw[ers,b0J,b0J,c3T x,b6k r]
end
mutual
theorem c3R:∀x:Nod,x.cnt+x.dep<=2*x.sz
 |⟨_,_,_,t,ts,l,_⟩=>by
  have:=c5x l;rw[Nod.cnt,Nod.dep,nsz];omega
theorem c5x:∀l:List Nod,a2K l+b0J l<=2*szN l
 | []=>by simp[a2K,b0J,szN]
 | x::r=>by
  have h1:=c3R x;have h2:=c5x r;simp only[a2K,b0J,szN];omega
end
mutual
theorem b8f:∀x:Nod,x.er.sz=x.sz
 |⟨_,_,_,_,_,l,_⟩=>by rw[Nod.er,nsz,nsz,c05 l]
theorem c05:∀l:List Nod,szN (ers l)=szN l
 | []=>rfl
 | x::r=>by rw[ers,szN,szN,b8f x,c05 r]
end
theorem b4w:∀a b:List Nod,a2K (a++b)=a2K a+a2K b
 | [],b=>by simp[a2K]
 | x::a,b=>by rw[List.cons_append,a2K,a2K,b4w a b];omega
theorem c1K:∀l:List Nod,l.length<=a2K l
 | []=>Nat.le_refl _
 | x::r=>by have:=c1K r;have:=x.cnt_eq;simp only[a2K,List.length_cons];omega
theorem size_l {n:Nat}{Φ:Q6}{x:Nod}(hx:x.sz<=1000000000)(H:∀y∈x.l,Φ.a1I y=some ((y.cnt:Int),(y.dep:Int))):∀(m i a d:Nat),x.l.length<m+i->i<=x.l.length->a+a2K (x.l.drop i)<=4000000000->a5u n Φ x m a d i=some (((a+a2K (x.l.drop i):Nat):Int),((max d (b0J (x.l.drop i)):Nat):Int))
 | 0,i,a,d,h1,h2,_=>by omega
 | m+1,i,a,d,h1,h2,h3=>by
  rw[a5u.eq_2];have hl:=a00 x.l;have hz:=x.a3X;rcases Nat.lt_or_ge i x.l.length with h|h
  ·rw[drop_eq h]at h3 ⊢;simp only[a2K,b0J]at h3 ⊢;rw[X6 (by omega),a0k h];simp only[NF,H _ (List.getElem_mem h)];have e1:w64 ((a:Int)+(x.l[i].cnt:Int)) =((a+x.l[i].cnt:Nat):Int):=by rw[a4m (by omega) (by omega)];omega
   have e2:max (d:Int) (x.l[i].dep:Int) =((max d x.l[i].dep:Nat):Int):=by omega
   rw[e1,e2,H6 (by omega),size_l hx H m (i+1) (a+x.l[i].cnt) (max d x.l[i].dep) (by omega) (by omega) (by omega)];congr 3
   ·omega
   ·omega
  ·rw[a0C (by omega),List.drop_eq_nil_of_le h];simp[NF,a2K,b0J]
theorem c01:∀(n:Nat) (x:Nod),x.sz<n->x.sz<=1000000000->a1I n x=some ((x.cnt:Int),(x.dep:Int))
 | 0,x,h,_=>by omega
 | n+1,x,h,hx=>by
  have hz:=x.a3X;have hc:=c3R x;have hc1:=x.cnt_eq;have hl:=a00 x.l;have H:∀y∈x.l,(Q6.fs n).a1I y=some ((y.cnt:Int),(y.dep:Int)):=fun y hy=>by
   have:=a1Q hy;exact c01 n y (by omega) (by omega)
  have e:=size_l (n:=n) hx H n 0 1 0 (by omega) (Nat.zero_le _) (by rw[List.drop_zero];omega);have e0:a5u n (Q6.fs n) x n 1 0 0=_:=e;show a6w n (Q6.fs n) x=_;unfold a6w;rw[e0,List.drop_zero];simp only[NF];have hd:=x.dep_eq;have e3:w64 (((max 0 (b0J x.l):Nat):Int)+1) =(x.dep:Int):=by rw[a4m (by omega) (by omega)];omega
  rw[e3,hc1]
theorem c6t {n:Nat}{Φ:F6}{a:List Typ}(ha:a.length<=1000000000)(H:∀t∈a,Φ.Y6 t t=some true):∀(m i:Nat),a.length<m+i->i<=a.length->a1O n Φ a a m i=some (.brk ())
 | 0,i,h1,h2=>by omega
 | m+1,i,h1,h2=>by
  rw[a1O.eq_2];rcases Nat.lt_or_ge i a.length with h|h
  ·rw[X6 (by omega),a0k h];simp only[NF,H _ (List.getElem_mem h)];rw[H6 (by omega)];exact c6t ha H m (i+1) (by omega) (by omega)
  ·rw[a0C (by omega)];rfl
theorem sameTs {a:List Typ}(ha:a.length<=1000000000)(hn:a.length<n)(H:∀t∈a,(F6.fs n).Y6 t t=some true):(F6.fs (n+1)).Q5 a a=some true:=by
 show a13 n (F6.fs n) a a=_;have e:a1O n (F6.fs n) a a n 0=_:=c6t ha H n 0 (by omega) (Nat.zero_le _);unfold a13;rw[a0z rfl,e];rfl
theorem sameT:∀(n:Nat) (t:Typ),2*t.sz+1<=n->t.sz<=1000000000 ->(F6.fs n).Y6 t t=some true
 | 0,t,h,_=>by have:=t.a3X;omega
 | 1,t,h,_=>by have:=t.a3X;omega
 | n+2,t,h,ht=>by
  have hz:=t.a3X;have hl:=a5H t.args;show a3U (n+1) (F6.fs (n+1)) t t=_;unfold a3U;rw[a0z rfl,a8J,a0z rfl,sameTs (by omega) (by omega) fun x hx=>by
   have:=a3w hx;exact sameT n x (by omega) (by omega)]
  rfl
theorem c6s {n:Nat}{Φ:I8}{a b:List Nod}(ha:a.length<=1000000000)(hab:ers a=ers b)(H:∀x∈a,∀y,x.er=y.er->Φ.a07 x y=some true):∀(m i:Nat),a.length<m+i->i<=a.length->a1N n Φ a b m i=some (.brk ())
 | 0,i,h1,h2=>by omega
 | m+1,i,h1,h2=>by
  rw[a1N.eq_2];have hb:=a6s hab;rcases Nat.lt_or_ge i a.length with h|h
  ·have hi:i<b.length:=by omega
   have e:(a[i]).er =(b[i]).er:=by
    have g:∀l:List Nod,ers l=l.map Nod.er:=fun l=>by induction l with
     | nil=>rfl
     | cons x r ih=>rw[ers,ih];rfl
    rw[g,g]at hab;rw[<-List.getElem_map Nod.er (h:=by simpa using h),<-List.getElem_map Nod.er (h:=by simpa using hi)];simp only[hab]
   rw[X6 (by omega),a0k h,a0k hi];simp only[NF,H _ (List.getElem_mem h) _ e];rw[H6 (by omega)];exact c6s ha hab H m (i+1) (by omega) (by omega)
  ·rw[a0C (by omega)];rfl
theorem same_v:∀(n:Nat) (x y:Nod),2*x.sz+1<=n->x.sz<=1000000000->x.er=y.er ->(I8.fs n).a07 x y=some true
 | 0,x,y,h,_,_=>by have:=x.a3X;have:=x.t.a3X;omega
 | 1,x,y,h,_,_=>by have:=x.a3X;have:=x.t.a3X;omega
 | n+2,x,y,h,hx,he=>by
  have hz:=x.a3X;have hl:=a00 x.l;have hl2:=a5H x.ts;obtain⟨e1,e2,e3,e4,e5,e6⟩:=a4D he;have hyl:=a6s e6;show a6v (n+1) (I8.fs (n+1)) x y=_;have g1:Y6 (n+1) x.t y.t=some true:=by rw[<-e4];exact sameT (n+1) x.t (by omega) (by omega)
  have g2:Q5 (n+1) x.ts y.ts=some true:=by
   rw[<-e5];exact sameTs (n:=n) (by omega) (by omega) fun t ht=>by
    have:=a3w ht;exact sameT n t (by omega) (by omega)
  have g3:(I8.fs (n+1)).X8 x.l y.l=some true:=by
   have e:a1N n (I8.fs n) x.l y.l n 0=_:=c6s (by omega) e6 (fun z hz w hw=>by
    have:=a1Q hz;exact same_v n z w (by omega) (by omega) hw) n 0 (by omega) (Nat.zero_le _)
   show a11 n (I8.fs n) x.l y.l=_;unfold a11;rw[a0z (show(x.l.length:Int) =(y.l.length:Int)by rw[hyl]),e];rfl
  unfold a6v;rw[a0z e1,<-e2,a8J,a0z e3,g1,g2,g3];rfl
theorem b1i {x y:Nod}(h:2*x.sz+1<=n)(hx:x.sz<=1000000000)(he:x.er=y.er):a07 n x y=some true:=same_v n x y h hx he
theorem leB_d (a b:Int):leB a b=decide (a<=b):=by unfold leB;rfl
section
variable {V:Int->Str->Prop} {l:List Tok} {size:Int} (C:Cx V l)
include C
theorem b7W {n:Nat}(hn:100<=n):∀(m:Nat) (i a:Nat) (o:Int),l.length<m+i->i<=l.length->a<=l.length -> ∃q:Nat,a<=q/\q<=l.length/\bS (a2C n l m o i a) (fun _=>some (List.length l:Int)) some=some (q:Int)
 | 0,i,a,o,h1,h2,_=>by omega
 | m+1,i,a,o,h1,h2,h3=>by
  have hl:=C.hl;rw[a2C.eq_2];rcases Nat.lt_or_ge i l.length with h|h
  ·rw[X6 (by omega)];obtain⟨F,hc⟩:∃F:Str->Bool,∀v,J4 n [[115,116,114,117,99,116],[101,110,117,109],[99,108,97,115,115],[112,114,111,116,111,99,111,108],[101,120,116,101,110,100],[102,117,110,99],[109,111,118,101,111,110,108,121],[102,114,111,122,101,110]] v=some (F v):=⟨_,fun v=>a8I (by simp only[List.length_cons,List.length_nil];omega) (by decide)⟩
   have ih:=fun o=>b7W hn m (i+1) a o (by omega) (by omega) h3;simp only[NF,CD,a4Y h,hc,H6 (show i<=1000000000000 by omega)];generalize F (a3x l i).text=b1;generalize eqS (a3x l i).text [123]=b2;generalize eqS (a3x l i).text [125]=b3;generalize eqB (a3x l i).kind 9=b4;generalize eqB (a3x l i).kind 8=b5;generalize leB o 0=b6;cases h7:leB (a:Int) (i:Int)
   ·cases b5<;>cases b2<;>cases b3<;>simp only[NF]<;>exact ih _
   ·have h7:a<=i:=by
     have:=of_decide_eq_true ((leB_d _ _).symm.trans h7);omega
    cases b6<;>cases b4<;>cases b1<;>simp only[NF]<;>first
     | exact⟨i,h7,h2,rfl⟩
     |(cases b5<;>cases b2<;>cases b3<;>simp only[NF]<;>exact ih _)
  ·rw[a0C (by omega)];exact⟨l.length,h3,Nat.le_refl _,rfl⟩
omit C in
theorem bs1 {A:Type}{Q:A->Prop}{x:Option (Lr Int Int)}{a b:Int}{f:Int->Option A}(h:bS x (fun _=>some a) some=some b)(g:S1 Q (f b)):S1 Q (bS x (fun _=>f a) f):=by
 rcases x with _|c|c
 ·cases h
 ·cases h;exact g
 ·cases h;exact g
theorem t_resume {A:Type}{Q:A->Prop}{k q:Nat}{f:Int->Option A}(hn:4000<=n)(hk:k<l.length)(h1:k<=q)(h2:q<=l.length)(h:∀p:Nat,k<p->p<=l.length->S1 Q (f (p:Int))):S1 Q ((a2s n k l q size).bind f):=by
 have hl:=C.hl;unfold a2s;by_cases e:q=k
 ·subst e;obtain⟨p,g1,g2,g3⟩:=b7W C (n:=n) (by omega) n q (q+1) 0 (by omega) (by omega) (by omega);rw[a0z rfl];simp only[NF,H6 (show q<=1000000000000 by omega)];exact bs1 g3 (h p g1 g2)
 ·obtain⟨p,g1,g2,g3⟩:=b7W C (n:=n) (by omega) n k q 0 (by omega) (by omega) h2;rw[a1t (by omega)];simp only[NF];exact bs1 g3 (h p (by omega) g2)
def QM (V:Int->Str->Prop)(a:List Flt×List Nod):Prop:=1+a2K a.2<=4000/\szN a.2<=12000 /\ ∀x∈a.2,G V 18 x/\x.dep<=39
theorem b7u {n:Nat}{src:Str}(hn:400000<=n)(hs:(src.length:Int)=size):∀(m k:Nat) (fs:List Flt) (xs:List Nod),k<=l.length->l.length<m+k->fs.length<=20->1+a2K xs<=4000->szN xs<=4*k ->(∀x∈xs,G V 18 x/\x.dep<=39)->S1 (QM V) (U1 n src l m ((1+a2K xs:Nat):Int) fs xs k)
 | 0,k,_,_,h1,h2,_,_,_,_=>by omega
 | m+1,k,fs,xs,h1,h2,h4,h6,h7,h8=>by
  have hl:=C.hl;have hlx:=c1K xs;rw[U1.eq_2,hs];have fin:S1 (QM V) (some (fs,xs)):=⟨_,rfl,h6,by show szN xs<=12000;omega,h8⟩
  rcases Nat.lt_or_ge k l.length with h|h
  ·rw[X6 (show(k:Int)<(l.length:Int)by omega)];simp only[NF];rcases Nat.lt_or_ge fs.length 20 with hf|hf
   ·have ap:∀a:Flt,app 16 fs [a]=some (fs++[a]):=fun a=>a3Z (by omega) (by simp) (by omega);have go:∀(p:Nat) (a:Flt),k<p->p<=l.length->S1 (QM V) (U1 n src l m ((1+a2K xs:Nat):Int) (fs++[a]) xs p):=fun p a g1 g2=>b7u hn hs m p (fs++[a]) xs g2 (by omega) (by simp only[List.length_append,List.length_singleton];omega) h6 (by omega) h8;rw[X6 (show(fs.length:Int)<20 by omega)];simp only[NF];rw[b7d C.hl h1];unfold a2i a4o;simp only[NF];refine decl_r C h1 hn _ _ _ _ (fun{x q} g1 g2 g4 g5=>?_) (fun{e q} g1 g2 g4=>?_)
    ·have hx2:=c3R x;simp only[NF,a0z (show(0:Int)=0 from rfl),Bool.and_self];rw[c01 n x (by omega) (by omega)];simp only[NF];have e1:w64 (1+(x.dep:Int)) =((1+x.dep:Nat):Int):=by rw[a4m (by omega) (by omega)];omega
     have e2:w64 (((1+a2K xs:Nat):Int)+(x.cnt:Int)) =((1+a2K xs+x.cnt:Nat):Int):=by rw[a4m (by omega) (by omega)];omega
     rw[e1,e2];rcases Nat.lt_or_ge 40 (1+x.dep)with hd1|hd1
     ·rw[X6 (by omega)];simp only[NF,ap];exact go _ _ g1 g2
     ·rw[a0C (by omega)];simp only[NF];rcases Nat.lt_or_ge 4000 (1+a2K xs+x.cnt)with hd2|hd2
      ·rw[X6 (by omega)];simp only[NF,ap];exact go _ _ g1 g2
      ·rw[a0C (by omega),a3Z (l:=xs) (m:=[x]) (by omega) (by simp) (by omega)];simp only[NF];have e3:1+a2K xs+x.cnt=1+a2K (xs++[x]):=by rw[b4w];simp only[a2K];omega
       rw[e3];exact b7u hn hs m q fs (xs++[x]) g2 (by omega) h4 (by omega) (by rw[b4k];simp only[szN];omega) (a7i h8 (a5C ⟨g5,by omega⟩))
    ·simp only[NF,a1t g4,Bool.false_and,ap];refine t_resume C (by omega) h g1 g2 fun p p1 p2=>go _ _ p1 p2
   ·rw[a0C (show ¬(fs.length:Int)<20 by omega)];exact fin
  ·rw[a0C (show ¬(k:Int)<(l.length:Int)by omega)];exact fin
end
end Go.Proofs.YtjhfloacokgdiaaGreatDoor
