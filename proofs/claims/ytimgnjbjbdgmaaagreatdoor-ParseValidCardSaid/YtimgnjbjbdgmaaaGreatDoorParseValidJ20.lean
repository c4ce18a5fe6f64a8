/- Texts of ParseValid, joined. -/
import Derived.Test.YtimgnjbjbdgmaaaGreatDoorParseValidJ19
set_option maxRecDepth 100000
set_option maxHeartbeats 20000000
set_option linter.all false
namespace Go.Proofs.YtimgnjbjbdgmaaaGreatDoor
open Go Go.Vm
variable {m0:List Nod}
section
variable {V:Int->Str->Prop} {l:List Tok} {size p0:Int} (C:Cx V l)
include C
omit C in
theorem lent_f {n:Nat}{pl r5:Int}:∀{m:Nat} {k op:Int} {s:Str} {xs:List Nod},0<m->a4f n size l pl r5 m false k op s xs=some (false,k,op,s,xs)
 | m+1,_,_,_,_,_=>rfl
theorem c4o {n n' k0:Nat}{a pl:Int}:∀(m m':Nat) {k:Nat} {o:Int} {s:Str} {xs:List Nod},k0<k->k<=l.length->l.length+1<m+k->l.length+1<m'+k->Nod.sz ⟨o,s,0,zT,[],xs,a⟩+4*k0<=4*k->G V 0 ⟨o,s,0,zT,[],xs,a⟩->PLC ⟨o,s,0,zT,[],xs,a⟩ -> ∀(A B:Type) (Q:A->B->Prop) (f:Int×Int×Str×List Nod->Option A) (g:Rs (Nod×Int) (Int×Int)->Option A) (h:Bool×Int×Int×Str×List Nod->Option B),(∀{o:Int} {s:Str} {xs:List Nod} {q:Nat},k0<q->q<=l.length->Nod.sz ⟨o,s,0,zT,[],xs,a⟩+4*k0<=4*q->G V 0 ⟨o,s,0,zT,[],xs,a⟩->PLC ⟨o,s,0,zT,[],xs,a⟩->S2 Q (f ((q:Int),o,s,xs)) (h (true,(q:Int),o,s,xs))) ->(∀{e o:Int} {s:Str} {xs:List Nod} {q:Nat},k0<=q->q<=l.length->S2 Q (g (.pan (e,(q:Int)))) (h (false,(q:Int),o,s,xs)))->S2 Q (bS (a5y n a size l m k o s xs) f g) ((a4f n' size l pl a m' true k o s xs).bind h)
 | 0,_,_,_,_,_,_,_,_,_,_,_,_=>zOm
 | m+1,m',k,o,s,xs,h1,h2,h3,h3',h4,h5,h6=>by
  obtain⟨m',rfl⟩:∃q,m'=q+1:=⟨m'-1,zOm⟩
  have ih:=fun{k o s xs}=>c4o (n:=n) (n':=n') (k0:=k0) (a:=a) (pl:=pl) m m' (k:=k) (o:=o) (s:=s) (xs:=xs);have fin:=fun{m k op s xs}=>@lent_f l size n' pl a m k op s xs;have lp1:=@PLC.fld;rw[a5y.eq_2,a4f.eq_2];exact two
theorem place_r {n n' k:Nat}{pl:Int}(hk:k<=l.length)(hn:10000<=n)(hn':10000<=n'):SP (o3 l k fun x=>G V 0 x/\PLC x) (f3 (Z:=Nod) l k) (a5j n l k size) (a5Y n' l size k pl):=by
 have lp1:=fun{a:Int} {k' o s xs}=>c4o C (size:=size) (n:=n) (n':=n') (k0:=k) (a:=a) (pl:=pl) n n' (k:=k') (o:=o) (s:=s) (xs:=xs);have fin:=fun{a:Int} {m k op s xs}=>@lent_f l size n' pl a m k op s xs;have lp2:=@PLC.nm;unfold a5j a5Y;exact two
theorem dotp_l {n n' k0:Nat}{Φ:D5}{Ψ:j4}{r5:Int}:∀(m m':Nat) {k:Nat} {t:Typ},k0<k->k<=l.length->l.length+1<m+k->l.length+1<m'+k->t.sz+k0<=k->GT V true t -> ∀(A B:Type) (Q:A->B->Prop) (f:Int×Typ->Option A) (g:Rs (Typ×Int) (Int×Int)->Option A) (h:Int->Option B) (o:Nod×Bool×Int×Int->Option B),(∀{t:Typ} {q m':Nat},isT l 8 [46] q=false->k0<q->q<=l.length->t.sz+k0<=q->GT V true t->S2 Q (f ((q:Int),t)) (bS (a0j n' Ψ size l p0 r5 true (m'+1) q t) h o)) ->(∀{t:Typ} {q m':Nat},isT l 8 [46] q=true->isK l 1 (q+1)=true->k0<q->q<=l.length->t.sz+k0<=q->GT V true t->S2 Q (f ((q:Int),t)) (bS (a0j n' Ψ size l p0 r5 true (m'+1) q t) h o)) ->(∀{e:Int} {z:Nod} {q:Nat},k0<=q->q<=l.length->S2 Q (g (.pan (e,(q:Int)))) (o (z,false,(q:Int),p0)))->S2 Q (bS (a1u n Φ true size l m k t) f g) (bS (a0j n' Ψ size l p0 r5 true m' k t) h o)
 | 0,_,_,_,_,_,_,_,_,_=>zOm
 | m+1,m',k,t,h1,h2,h3,h3',h4,h5=>by
  obtain⟨m',rfl⟩:∃q,m'=q+1:=⟨m'-1,zOm⟩
  have ih:=fun{k t}=>dotp_l (n:=n) (n':=n') (k0:=k0) (Φ:=Φ) (Ψ:=Ψ) (r5:=r5) m m' (k:=k) (t:=t);intro A B Q f g h o c1 c2 hpan;rw[a1u.eq_2];cases h8:isT l 8 [46] k
  ·have lp1:=c1 (m':=m') h8 h1 h2 h4 h5;exact two
  have h9:=a8i h8;cases h7:isK l 1 (k+1)
  ·rw[a0j.eq_2];exact two
  have lp1:=c2 (m':=m') h8 h7 h1 h2 h4 h5;exact two
theorem path_r {n n' k:Nat}{Ψ:j4}(hk:k<=l.length)(hn:200000<=n)(hn':200000<=n')(A B:Type)(Q:A->B->Prop)(f:Typ×Int->Option A)(g:Int×Int->Option A)(h:Nod×Bool×Int×Int->Option B)(c1:∀{t:Typ} {q m':Nat},isT l 8 [46] q=false->k<q->q<=l.length->t.sz+k<=q->GT V true t->S2 Q (f (t,(q:Int))) (bS (a0j n' Ψ size l p0 (a2z l size k) true (m'+1) q t) (fun a=>h (⟨0,[],0,zT,[],[],a2z l size k⟩,false,a,p0)) h))(c2:∀{t:Typ} {q m':Nat},isT l 8 [46] q=true->isK l 1 (q+1)=true->k<q->q<=l.length->t.sz+k<=q->GT V true t->S2 Q (f (t,(q:Int))) (bS (a0j n' Ψ size l p0 (a2z l size k) true (m'+1) q t) (fun a=>h (⟨0,[],0,zT,[],[],a2z l size k⟩,false,a,p0)) h))(d:∀{e:Int} {z:Nod} {q:Nat},k<=q->q<=l.length->S2 Q (g (e,(q:Int))) (h (z,false,(q:Int),p0))):S2 Q (D6 (a1d n true l k size) f g) ((a3m n' Ψ l size k p0).bind h):=by
 have hl:=C.hl;obtain⟨n,rfl⟩:∃q,n=q+1:=⟨n-1,zOm⟩
 obtain⟨a,ha⟩:∃q,n'=q+2:=⟨n'-2,zOm⟩
 unfold a3m;simp only[NF];refine u_off hl hk ?_;rw[show a1f n'=a1Z (a+1) (A8.fs (a+1))from by rw[ha];rfl];refine base_r C (b:=true) hk zOm zOm (fun{q} g1 g2=>ht2 C n n a (Nat.le_refl _) g1 zOm zOm) A B Q f g _ (fun{t q} g1 g2 g3 g4=>?_) fun{e q z} g1 g2=>?_
 ·simp only[NF];exact dotp_l C (k0:=k) n n' g1 g2 zOm zOm g3 g4 A B Q _ _ _ _ c1 c2 d
 rw[ha];exact d g1 g2
omit C in
theorem five {j:Nat}(h:j<5):j=0∨j=1∨j=2∨j=3∨j=4:=zOm
def b1o (j:Nat):List Str:=([[[124,124]],[[38,38]],[[61,61],[33,61],[60],[60,61],[62],[62,61]],[[43],[45]],[[42],[47],[37]]]:List (List Str)).getD j []
omit C in
theorem c9h {j:Nat}(hj:j<5):(b1o j).length<=6 /\ ∀s∈b1o j,OP s/\eqS s []=false:=by
 unfold OP;rcases five hj with rfl|rfl|rfl|rfl|rfl<;>simp[b1o,eqS]
omit C in
theorem v_lk {i j:Nat}(hij:i<=j)(hj:j<5):idx' (LVs.drop i) ((j-i:Nat):Int)=some ⟨b1o j,decide (j=2)⟩:=by
 have h:j-i<(LVs.drop i).length:=by simp[LVs];omega
 rw[a1h h,List.getElem_drop];simp only[show i+(j-i)=j from zOm];rcases five hj with rfl|rfl|rfl|rfl|rfl<;>rfl
omit C in
theorem lsub {i j:Nat}(hij:i<=j)(hj:j<5):a9p (LVs.drop i) (w64 (((j-i:Nat):Int)+1)) ((LVs.drop i).length:Int)=some (LVs.drop (j+1)):=by
 have h:(LVs.drop i).length=5-i:=by simp[LVs]
 rw[S9 zOm];have h2:inI ((j-i+1:Nat):Int) ((LVs.drop i).length:Int) (LVs.drop i).length=true:=by rw[h];simp[inI];omega
 simp only[a9p,h2,Int.toNat_natCast,List.take_length,List.drop_drop];rw[show i+(j-i+1)=j+1 from zOm]
omit C in
theorem rk {j:Nat}(hj:j<5):idx' ([[[124,124]],[[38,38]],[[61,61],[33,61],[60],[60,61],[62],[62,61]],[[43],[45]],[[42],[47],[37]]]:List (List Str)) (j:Int)=some (b1o j):=by
 rw[a1h (by simpa using hj)];rcases five hj with rfl|rfl|rfl|rfl|rfl<;>rfl
omit C in
theorem c7o {n:Nat}{xs:List Str}{v:Str}:∀(m i:Nat),xs.length<m+i->i<=xs.length->xs.length<=1000000 -> ∃r:Int,bS (a2p n xs v m i) (fun _=>some (-1)) some=some r/\leB 0 r=decide (v∈xs.drop i)
 | 0,i,h1,h2,_=>zOm
 | m+1,i,h1,h2,h3=>by
  rw[a2p.eq_2];rcases Nat.lt_or_ge i xs.length with h|h
  ·rw[a04 zOm,a1h h,drop_eq h];simp only[NF,eqS_d];by_cases e:v=xs[i]
   ·rw[decide_eq_true e];refine⟨_,rfl,?_⟩;rw[b8y zOm,decide_eq_true (by rw[<-e];exact List.mem_cons_self)]
   rw[decide_eq_false e,S9 zOm];obtain⟨r,e1,e2⟩:=c7o (n:=n) (xs:=xs) (v:=v) m (i+1) zOm zOm h3;refine⟨r,e1,?_⟩;rw[e2];exact decide_eq_decide.2 (by rw[List.mem_cons];exact⟨.inr,fun h=>h.resolve_left e⟩)
  rw[a2e zOm];refine⟨_,rfl,?_⟩;rw[List.drop_eq_nil_of_le h,c0q zOm,decide_eq_false zSi]
omit C in
theorem b74 {n:Nat}{xs:List Str}{v:Str}(h:xs.length<n)(h2:xs.length<=1000000):X4 n xs v=some (decide (v∈xs)):=by
 obtain⟨r,e1,e2⟩:=c7o (n:=n) (xs:=xs) (v:=v) n 0 zOm zOm h2;have e3:a1Q n xs v=some r:=by
  unfold a1Q;simp only[NF];exact e1
 unfold X4;rw[e3,Option.bind_some,e2];rfl
omit C in
theorem hit_v {n i j k:Nat}(hij:i<=j)(hj:j<5)(hn:10<=n):(cond (ltB (k:Int) (List.length l:Int)) ((idx' l (k:Int)).bind fun x6=>cond (eqB x6.kind 8) ((idx' (LVs.drop i) ((j-i:Nat):Int)).bind fun x7=>(idx' l (k:Int)).bind fun x8=>(X4 n x7.ops x8.text).bind fun r9=>some r9) (some false)) (some false))=some (isK l 8 k&&decide ((a4z l k).text∈b1o j)):=by
 have h6:=(c9h hj).1;unfold isK;rcases Nat.lt_or_ge k l.length with h|h
 ·rw[a04 zOm,cond_true,a5t h,decide_eq_true h,v_lk hij hj];simp only[Option.bind_some,b74 (show(b1o j).length<n by omega) zOm,Bool.true_and];cases eqB (a4z l k).kind 8<;>rfl
 rw[a2e zOm,cond_false,decide_eq_false zOm];rfl
theorem c5E {Ψ:j4}{n j k:Nat}(hj:j<5)(hk:k<=l.length){cnt:Int}{x:Nod}:∀(m i:Nat) (o:Str),i <=(b1o j).length ->(b1o j).length<m+i ->
  a2Z n Ψ size j l m cnt o i k p0 x=some (cnt,cond (isK l 8 k&&decide ((a4z l k).text∈(b1o j).drop i)) (a4z l k).text o,(k:Int),p0,x)
 | 0,i,o,h1,h2=>zOm
 | m+1,i,o,h1,h2=>by
  have h6:=(c9h hj).1;simp only[a2Z,rk hj,Option.bind_some];rcases Nat.lt_or_ge i (b1o j).length with h|h
  ·rw[a04 zOm,cond_true,a1h h,Option.bind_some,c2l C.hl hk,Option.bind_some,drop_eq h,S9 zOm];cases hb:isT l 8 (b1o j)[i] k
   ·rw[cond_false,Option.bind_some,c5E hj hk m (i+1) o h zOm];cases hi:isK l 8 k
    ·rfl
    simp only[List.mem_cons,c1B hi hb,false_or]
   simp only[cond_true,Option.bind_some];rw[c5E hj hk m (i+1) _ h zOm,<-c5P hb];simp only[b1T hb,Bool.true_and,List.mem_cons,true_or,decide_true,cond_true,Bool.cond_self]
  rw[a2e zOm,cond_false,List.drop_eq_nil_of_le h];simp
omit C in
theorem c1M {n m:Nat}{Ψ:j4}{j c k pl:Int}{x:Nod}(hm:0<m):a1c n Ψ size j l m false c k pl x=some (.brk (false,k,pl,x)):=by
 obtain⟨m,rfl⟩:∃q,m=q+1:=⟨m-1,zOm⟩
 rfl
omit C in
theorem level_o {n m:Nat}{Ψ:j4}{k pl:Int}{x:Nod}(hm:0<m):a1c n Ψ size ((2:Nat):Int) l m true (w64 (0+1)) k pl x=some (.brk (true,k,pl,x)):=by
 obtain⟨m,rfl⟩:∃q,m=q+1:=⟨m-1,zOm⟩
 rw[a1c.eq_2,a5O (show((2:Nat):Int)=2 from rfl),show eqB (w64 (0+1)) 0=false from a5N (by rw[a1i zOm zOm];decide)];rfl
theorem c69 {n n' k0 i j:Nat}(H:HE V l size p0 n)(hij:i<=j)(hj:j<5)(hn:200000+40*(l.length-(k0+1))+19<=n)(hn':200000+40*(l.length-(k0+1))+19<=n'){z:Int}:∀(m m' k:Nat) (cnt:Int) (x:Nod),(j=2->cnt=0)->k0<k->k<=l.length->l.length<m+k->l.length+1<m'+k->x.sz+4*k0<=4*k->G V 0 x -> ∀(A B:Type) (Q:A->B->Prop) (f:Int×Int×Nod->Option A) (g:Rs (Nod×Int) (q9×Int)->Option A) (h:Nod×Bool×Int×Int->Option B),(∀{y:Nod} {q:Nat},k0<q->q<=l.length->y.sz+4*k0<=4*q->G V 0 y->S2 Q (f (z,(q:Int),y)) (h (y,true,(q:Int),p0))) ->(∀{e:q9} {q:Nat} {y:Nod} {pl:Int},k0<=q->q<=l.length->e.fault.code≠0->S2 Q (g (.pan (e,(q:Int)))) (h (y,false,(q:Int),pl)))->S2 Q (bS (a5w n (j5.fs n) size (LVs.drop i) l m ((j-i:Nat):Int) z k x) f g) (bS (a1c n' (j4.fs n') size j l m' true cnt k p0 x) (fun y=>h (y.2.2.2,y.1,y.2.1,y.2.2.1)) h)
 | 0,m',k,cnt,x,h1,h2,h3,h4,h5,h6,h7=>zOm
 | m+1,m',k,cnt,x,h1,h2,h3,h4,h5,h6,h7=>by
  intro A B Q f g h hok hpan;obtain⟨m',rfl⟩:∃q,m'=q+1:=⟨m'-1,zOm⟩
  have hl:=C.hl;obtain⟨hol,hop⟩:=c9h hj;have hf:=c5E C (size:=size) (p0:=p0) (Ψ:=j4.fs n') (n:=n') hj h3 (cnt:=cnt) (x:=x) n' 0 [] (Nat.zero_le _) zOm;have hmore:(cond true (cond (!eqB (j:Int) 2) (some true) (some (eqB cnt 0))) (some false))=some true:=by
   by_cases h2:j=2
   ·rw[h1 h2,a5O (show(j:Int)=2 from zOm),a5O (show(0:Int)=0 from rfl)];rfl
   rw[a5N (show ¬(j:Int)=2 from zOm)];rfl
  rw[a5w.eq_2,a1c.eq_2,hmore,hit_v hij hj zOm];simp only[NF];have hf:a2Z n' (j4.fs n') size j l n' cnt [] 0 k p0 x=_:=hf;rw[hf];simp only[NF,List.drop_zero];cases hh:(isK l 8 k&&decide ((a4z l k).text∈b1o j))
  ·simp only[NF,a9d];exact hok h2 h3 h6 h7
  simp only[Bool.and_eq_true,decide_eq_true_eq]at hh;obtain⟨hk8,hm⟩:=hh;obtain⟨ho,hs⟩:=hop _ hm;have h8:isT l 8 (a4z l k).text k=true:=c5O hk8 (a9d _);have h9:=a8i h8;have pc1:=fun{x y:Nod} {a:Int}=>@G.bin V (a4z l k).text x y a;have lp1:=H.f_lev (n':=n') (j:=j+1) (k:=k+1) zOm h9 zOm zOm;rw[a5t h9,lsub hij hj,S9 (k:=k) zOm,S9 (k:=j) zOm];simp only[NF,hs];refine u_sign hl h3 ?_;rw[h8];simp only[NF];have hx:=x.H8;by_cases h2:j=2
  ·subst h2;rw[h1 rfl];have fin:=And.intro (v_lk hij hj) (And.intro (@c1M l size n') (@level_o l size n'));simp only[show decide (2=2)=true from rfl]at fin;exact two
  have ih:=fun{k cnt x}=>c69 H hij hj hn hn' (z:=z) m m' k cnt x;have fin:=And.intro (v_lk hij hj) (@c1M l size n');rw[decide_eq_false h2]at fin;exact two
theorem lev_l {n k i:Nat}(H:HE V l size p0 n)(hk:k<=l.length)(hn:200000+40*(l.length-k)+19<=n+1)(hi:i<=5)(U:∀{n':Nat},200000+40*(l.length-k)+13<=n'->SP (o4 l k (G V 0) p0) (fE (Z:=Nod) l k) ((j5.fs (n+1)).U6 l k size) ((j4.fs n').a0p l size k p0)):∀(d j n' m:Nat),j+d=5->i<=j->200000+40*(l.length-k)+14+d<=n'->d<m -> ∀(A B:Type) (Q:A->B->Prop) (f:Int×Nod->Option A) (g:Rs (Nod×Int) (q9×Int)->Option A) (h:Nod×Bool×Int×Int->Option B),(∀{x:Nod} {q:Nat},k<q->q<=l.length->x.sz+4*k<=4*q->G V 0 x->S2 Q (bS (a19 n (j5.fs n) (LVs.drop i) size l (m-d) d q x) f g) (h (x,true,(q:Int),p0))) ->(∀{e:q9} {q:Nat} {y:Nod} {pl:Int},k<=q->q<=l.length->e.fault.code≠0->S2 Q (g (.pan (e,(q:Int)))) (h (y,false,(q:Int),pl)))->S2 Q (D6 ((j5.fs (n+1)).U6 l k size) (fun x=>bS (a19 n (j5.fs n) (LVs.drop i) size l m 0 x.2 x.1) f g) fun e=>g (.pan e)) (((j4.fs n').Y7 (j:Int) l size k p0).bind h)
 | 0,j,n',m,h1,h2,h3,h4=>by
  intro A B Q f g h c d;obtain⟨n',rfl⟩:∃q,n'=q+1:=⟨n'-1,zOm⟩
  show S2 Q _ ((a1F n' (j4.fs n') j l size k p0).bind h);unfold a1F a8z;rw[a5O (show(j:Int)=_ from by simp;omega)];simp only[NF];exact U zOm A B Q _ _ _ c d
 | d+1,j,n',m,h1,h2,h3,h4=>by
  intro A B Q f g h c d';obtain⟨n',rfl⟩:∃q,n'=q+1:=⟨n'-1,zOm⟩
  show S2 Q _ ((a1F n' (j4.fs n') j l size k p0).bind h);unfold a1F a8z;rw[a5N (show ¬(j:Int)=_ from by simp;omega),S9 zOm];simp only[NF];have hlen:(LVs.drop i).length=5-i:=by simp[LVs]
  have hl:=C.hl;refine lev_l H hk hn hi U d (j+1) n' m zOm zOm zOm zOm A B Q f g _ (fun{x q} g1 g2 g3 g4=>?_) fun{e q y pl} g1 g2 g3=>?_
  ·obtain⟨m',hm⟩:∃m',m-d=m'+1:=⟨m-d-1,zOm⟩
   rw[hm,a19.eq_2,a04 (by rw[hlen];omega)];rw[show w64 (w64 (((LVs.drop i).length:Int)-1)-(d:Int)) =((j-i:Nat):Int)from by
    rw[hlen,a1i (a:=((5-i:Nat):Int)-1) zOm zOm,a1i zOm zOm];omega]
   simp only[NF];refine c69 C (n:=n) (n':=n') (k0:=k) H zOm zOm zOm zOm (z:=d) n n' q 0 x (fun _=>rfl) g1 g2 zOm zOm g3 g4 A B Q _ _ h (fun{y q'} e1 e2 e3 e4=>?_) d';rw[S9 zOm,show m'=m-(d+1)from zOm];exact c e1 e2 e3 e4
  rw[c1M zOm];exact d' g1 g2 g3
section
variable {n n':Nat} (H:HE V l size p0 n) {k:Nat} (hk:k<=l.length)
include H hk
theorem e_lev {j:Nat}(hj:j<=5)(hn:200000+40*(l.length-k)+19<=n+1)(hn':200000+40*(l.length-k)+19<=n')(A B:Type)(Q:A->B->Prop)(f:Nod×Int->Option A)(g:q9×Int->Option A)(h:Nod×Bool×Int×Int->Option B)(c:o4 l k (G V 0) p0 (fun x y=>S2 Q (f x) (h y)))(d:fE (Z:=Nod) l k (fun e y=>S2 Q (g e) (h y))):S2 Q (D6 ((j5.fs (n+1)).U6 l k size) (fun x=>D6 ((j5.fs (n+1)).a0R x.1 (LVs.drop j) l x.2 size) f g) g) (((j4.fs n').Y7 (j:Int) l size k p0).bind h):=by
 have hlen:(LVs.drop j).length=5-j:=by simp[LVs]
 show S2 Q (D6 _ (fun x:Nod×Int=>D6 (a3Y n (j5.fs n) x.1 (LVs.drop j) l x.2 size) f g) g) _;unfold a3Y;simp only[NF];refine lev_l C H hk hn hj (fun{n'} g=>?_) (5-j) j n' n zOm (Nat.le_refl _) zOm zOm A B Q (fun x=>f (x.2,x.1)) (fun x=>D6 (some x) f g) h (fun{x q} g1 g2 g3 g4=>?_) d
 ·obtain⟨n',rfl⟩:∃q,n'=q+1:=⟨n'-1,zOm⟩
  exact c7c C H hk zOm zOm
 obtain⟨m',hm⟩:∃m',n-(5-j)=m'+1:=⟨n-(5-j)-1,zOm⟩
 rw[hm,a19.eq_2,a2e (by rw[hlen];omega)];exact c g1 g2 g3 g4
theorem e_expr (hn:200000+40*(l.length-k)+20<=n+1)(hn':200000+40*(l.length-k)+20<=n'+1):SP (o4 l k (G V 0) p0) (fE (Z:=Nod) l k) (a4E n (j5.fs n) l k size) (a4J n' (j4.fs n') l size k p0):=by
 intro A B Q f g h c d;unfold a4E a4J a9I;simp only[NF];exact H.f_lev (j:=0) zOm hk zOm zOm A B Q f g h c d
theorem c8g (hi:isT l 8 [123] k=true)(hn:200000+40*(l.length-k)+9<=n+1)(hn':200000+40*(l.length-k)+9<=n'+1):SP (o4 l k (G V 0) p0) (fE (Z:=Nod) l k) (a2O n (j5.fs n) l k size) (a2Y n' (j4.fs n') l size k p0):=by
 have hb:=a8i hi;unfold a2O a1T a2Y;exact two
end
section
variable {n n' k0:Nat} (H:HE V l size p0 n)
omit C in
theorem c6M {n:Nat}{Ψ:j4}{pl r5:Int}:∀{m:Nat} {xs:List Nod} {k:Int},0<m->a2b n Ψ size l r5 m false k pl xs=some (.brk (k,pl,xs))
 | m+1,_,_,_=>rfl
omit C in
theorem c6O {Φ:j5}(hl:l.length<=3000):∀{m k:Nat} {xs:List Nod},isT l 8 [44] k=false->0<m->k<=l.length -> ∀{A B:Type} {Q:A->B->Prop} {f:Int×List Nod->Option A} {g:Rs (Nod×Int) (q9×Int)->Option A} {R:Option B},S2 Q (f ((k:Int),xs)) R->S2 Q (bS (a18 n Φ size l m k xs) f g) R
 | m+1,k,xs,h,_,hk,_,_,_,_,_,_,g=>by
  rw[a18.eq_2,b43 hl hk,h];exact g
omit C in
theorem c6P {n:Nat}{Ψ:j4}{pl r5:Int}:∀{m:Nat} {xs:List Nod} {k:Int},0<m->a2b n Ψ size l r5 m true k pl xs =(Ψ.M6 l size k pl).bind fun x=>cond (!x.2.1) (some (.out (⟨67,[],0,zT,[],xs,r5⟩,false,x.2.2.1,x.2.2.2))) ((app 144 xs [x.1]).bind fun l8=>(p9 [44] l size x.2.2.1 x.2.2.2).bind fun y=>a2b n Ψ size l r5 (m-1) y.1 y.2 x.2.2.2 l8)
 | m+1,_,_,_=>rfl
include H
theorem c6N (hn:200000+40*(l.length-(k0+1))+20<=n)(hn':200000+40*(l.length-(k0+1))+20<=n'){r5:Int}:∀(m m':Nat) {k:Nat} {xs:List Nod},isT l 8 [44] k=true->k0<=k->k<=l.length->l.length+1<m+k->l.length+1<m'+k->szN xs+4*k0<=4*k ->(∀x∈xs,G V 0 x)->SL (R':=Nod×Int) (fun c=>∀{x:List Nod} {q:Nat},k0<=q->q<=l.length->szN x+4*k0<=4*q->x.length<=4*q ->(∀y∈x,G V 0 y)->c ((q:Int),x) ((q:Int),p0,x)) (fE (Z:=Nod) l k0) (a18 n (j5.fs n) size l m k xs) (a2b n' (j4.fs n') size l r5 m' true ((k+1:Nat):Int) p0 xs)
 | 0,_,_,_,_,_,_,_,_,_,_=>zOm
 | m+1,m',k,xs,h0,h1,h2,h3,h3',h4,h5=>by
  obtain⟨m',rfl⟩:∃q,m'=q+1:=⟨m'-1,zOm⟩
  have ih:=fun{k:Nat} {xs:List Nod}=>c6N hn hn' (r5:=r5) m m' (k:=k) (xs:=xs);have fin:=fun{m xs k}=>@c6M l size n' (j4.fs n') p0 r5 m xs k;have lf1:=fun{k xs}=>c6O (size:=size) (n:=n) (Φ:=j5.fs n) C.hl (m:=m) (k:=k) (xs:=xs);rw[a18.eq_2,c6P zOm];simp only[Nat.add_sub_cancel];exact two
omit C H in
theorem argl_f {n:Nat}{Ψ:j4}{pl:Int}:∀{m:Nat} {xs:List Nod} {k:Int},0<m->a4d n Ψ size l m xs false k pl=some (.brk (xs,k,pl))
 | m+1,_,_,_=>rfl
theorem argl_l (hn:200000+40*(l.length-k0)+20<=n)(hn':200000+40*(l.length-k0)+20<=n')(hm:m0.length<=40000):∀m,LP l m k0 (∀x ∈ ·,G V 6 x) m0 (fun k P=>SL (R':=List Nod×Int) (fun c=>∀{x z:List Nod} {q:Nat},z=m0++x->k<=q->q<=l.length->szN x+4*k<=4*q->x.length<=4*q->P x->c (x,(q:Int)) (z,(q:Int),p0)) (fun d=>∀{e:q9} {q:Nat} {z z':List Nod} {pl:Int},k<=q->q<=l.length->e.fault.code≠0->d (e,(q:Int)) (z,false,(q:Int),pl,z'))) (fun k xs=>a5S n (j5.fs n) size l m xs k) (fun m k zs=>a4d n' (j4.fs n') size l m zs true k p0):=lpI fun m ih m' k xs h1 h2 h3 h3' h4 h5=>by
 have fin:=fun{m xs k}=>@argl_f l size n' (j4.fs n') p0 m xs k;have pr1:=fun{q}=>place_r C (n:=n) (n':=n') (k:=q) (size:=size) (pl:=p0);simp only[a5S,a4d];exact two
theorem e_args {k:Nat}(hk:k<=l.length)(hm:m0.length<=40000)(hn:200000+40*(l.length-k)+9<=n+1)(hn':200000+40*(l.length-k)+9<=n'+1):SP (fun c=>∀{x z:List Nod} {q:Nat},z=m0++x->k+2<=q->q<=l.length->szN x+8+4*k<=4*q->x.length<=4*q ->(∀y∈x,G V 6 y)->c (x,(q:Int)) (z,true,(q:Int),p0,z)) (fun d=>∀{e:q9} {q:Nat} {z z':List Nod} {pl:Int},k<=q->q<=l.length->e.fault.code≠0->d (e,(q:Int)) (z,false,(q:Int),pl,z')) (a4D n (j5.fs n) l k size) (a4I n' (j4.fs n') m0 l size k p0):=by
 intro A B Q f g h hok hpan;unfold a4D a4I;cases hi:isT l 8 [40] k
 ·exact two
 have hb:=a8i hi;have lp1:=fun{m' k' xs zs}=>argl_l C H (n':=n') (k0:=k+1) (m0:=m0) zOm zOm hm n m' k' xs zs;exact two
omit C H in
theorem post_f {n:Nat}{Ψ:j4}{pl:Int}:∀{m:Nat} {x:Nod} {k:Int},0<m->a0E n Ψ size l m false k pl x=some (.brk (false,k,pl,x))
 | m+1,_,_,_=>rfl
theorem post_l (hn:200000+40*(l.length-k0)<=n+20)(hn':200000+40*(l.length-k0)<=n'+20):∀(m m':Nat) {k:Nat} {b:Bool} {x:Nod},(b=false∨isT l 8 [40] k=false)->k0<k->k<=l.length->l.length+1<m+k->l.length+1<m'+k->x.sz+4*k0<=4*k->G V 0 x -> ∀(A B:Type) (Q:A->B->Prop) (f:Nod×Int->Option A) (g:q9×Int->Option A) (h:Bool×Int×Int×Nod->Option B) (o:Nod×Bool×Int×Int->Option B),o4 l k0 (G V 0) p0 (fun x y=>S2 Q (f x) (o y))->fE (Z:=Nod) l k0 (fun e y=>S2 Q (g e) (o y)) ->(∀{e:q9} {q:Nat} {z:Nod} {pl:Int},k0<=q->q<=l.length->e.fault.code≠0->S2 Q (g (e,(q:Int))) (h (false,(q:Int),pl,z)))->S2 Q (D6 (a2D n (j5.fs n) size l m b k x) f g) (bS (a0E n' (j4.fs n') size l m' true k p0 x) h o)
 | 0,_,_,_,_,_,_,_,_,_,_,_=>zOm
 | m+1,m',k,b,x,h0,h1,h2,h3,h3',h4,h5=>by
  obtain⟨m',rfl⟩:∃q,m'=q+1:=⟨m'-1,zOm⟩
  have ih:=fun{k x}=>post_l hn hn' m m' (k:=k) (b:=false) (x:=x) (.inl rfl);have fin:=fun{m x k pl}=>@post_f l size n' (j4.fs n') pl m x k;intro A B Q f g h o hok lf1 hpan;have pc1:=@lf1;rw[a2D.eq_2,a0E.eq_2];cases b
  ·exact two
  have h0:=h0.resolve_left zSi;exact two
end
section
variable {n n' k0:Nat} (H:HE V l size p0 n)
include H
theorem c8h {k:Nat}(hk:k<=l.length)(hn:200000+40*(l.length-k)+11<=n+1)(hn':200000+40*(l.length-k)+11<=n'+1):SP (o4 l k (G V 0) p0) (fE (Z:=Nod) l k) (a2S n (j5.fs n) l k size) (a3d n' (j4.fs n') l size k p0):=by
 have lp1:=fun{m m' k' b x}=>post_l C H (n':=n') (k0:=k) zOm zOm m m' (k:=k') (b:=b) (x:=x);have fin:=fun{m x k pl}=>@post_f l size n' (j4.fs n') pl m x k;unfold a2S a3d;cases hi:isK l 1 k
 ·exact two
 have hb:=a8N hi;obtain⟨n,rfl⟩:∃q,n=q+1:=⟨n-1,zOm⟩
 obtain⟨n',rfl⟩:∃q,n'=q+1:=⟨n'-1,zOm⟩
 have e1:(j5.fs (n+1)).a11=a1R n (j5.fs n):=rfl;have e2:(j4.fs (n'+1)).a14=a1Y n' (j4.fs n'):=rfl;simp only[e1,e2];unfold a1R a1Y;cases h8:isT l 8 [40] (k+1)
 ·exact two
 have hc:=a8i h8;simp only[a2D.eq_2];exact two
omit C H in
theorem ip_k {k:Nat}{kd kd':Int}(h:isK l kd k=true):(a4z l k).at_=a2z l size k/\eqB (a4z l k).kind kd'=decide (kd=kd'):=by
 have h1:=a8N h;unfold isK at h;rw[Bool.and_eq_true,a5M]at h;rw[a5M,of_decide_eq_true h.2];unfold a2z;rw[decide_eq_true h1];exact⟨rfl,rfl⟩
omit C H in
theorem ip_7 {m k:Nat}{Ψ:j4}{r5:Int}{ys:List Nod}(hl:l.length<=3000)(h:isK l 7 k=true)(hm:0<m)(hy:ys.length<=40000){A B:Type}{Q:A->B->Prop}{L:Option A}{o:Nod×Bool×Int×Int->Option B}(g:S2 Q L (o (⟨53,[],0,zT,[],ys++[⟨52,(a4z l k).text,0,zT,[],[],a2z l size k⟩],r5⟩,true,((k+1:Nat):Int),p0))):S2 Q L ((a0d n Ψ size l r5 m k p0 ys).bind o):=by
 obtain⟨m,rfl⟩:∃q,m=q+1:=⟨m-1,zOm⟩
 have h1:=a8N h;obtain⟨e1,e2⟩:=ip_k (size:=size) (kd':=7) h;rw[a0d.eq_2];simp only[NF,a5t h1,e1,e2];rw[b7Y zOm zSi zOm,S9 zOm];exact g
theorem c3s (hn:200000+40*(l.length-(k0+1))+20<=n)(hn':200000+40*(l.length-(k0+1))+20<=n'){a0:Int}:∀(m m':Nat) {p:Nat} {xs ys:List Nod} {s:Str} {a:Int},isK l 5 p=true∨isK l 6 p=true->xs=ys++[⟨52,(a4z l p).text,0,zT,[],[],a2z l size p⟩]->k0<=p->p<l.length->l.length<m+p->l.length+1<m'+p->szN ys+4*k0<=4*p->INX V xs->SP (o4 l k0 (G V 0) p0) (fE (Z:=Nod) l k0) (a4Q n (j5.fs n) a0 size l m ((p+1:Nat):Int) xs s a) (a0d n' (j4.fs n') size l a0 m' p p0 ys)
 | 0,_,_,_,_,_,_,_,_,_,_,_,_,_,_=>zOm
 | m+1,m',p,xs,ys,s,a,h0,hx,h1,h2,h3,h3',h4,h5=>by
  obtain⟨m',rfl⟩:∃q,m'=q+1:=⟨m'-1,zOm⟩
  have hl:=C.hl;have hy:=I8 ys;have hz:szN xs=szN ys+2:=by rw[hx];simp only[SZ]
  have hxl:xs.length=ys.length+1:=by rw[hx];simp
  have ih:=fun{p xs ys s a}=>c3s hn hn' (a0:=a0) m m' (p:=p) (xs:=xs) (ys:=ys) (s:=s) (a:=a);have e:(a4z l p).at_=a2z l size p/\decide ((a4z l p).kind=7)=false:=by
   rw[<-a5M];rcases h0 with h0|h0<;>exact ip_k h0
  have fin:=And.intro e.1 (And.intro e.2 hx.symm);have lf1:=fun{k ys}=>ip_7 (size:=size) (p0:=p0) (n:=n') (Ψ:=j4.fs n') (r5:=a0) (m:=m') (k:=k) (ys:=ys) hl;rw[a4Q.eq_2,a0d.eq_2];clear h0 hx e;exact two
theorem e_interp {k:Nat}(hi:isK l 5 k=true)(hk:k<=l.length)(hn:200000+40*(l.length-k)+9<=n+1)(hn':200000+40*(l.length-k)+9<=n'+1):SP (o4 l k (G V 0) p0) (fE (Z:=Nod) l k) (a3x n (j5.fs n) l k size) (a1g n' (j4.fs n') l size k p0):=by
 have hb:=a8N hi;have lp1:=fun{a0 xs s a}=>c3s C H (n':=n') (k0:=k) zOm zOm (a0:=a0) n n' (p:=k) (xs:=xs) (ys:=[]) (s:=s) (a:=a) (.inl hi);unfold a3x a1g;exact two
theorem e_atom {k:Nat}(hi:isK l 1 k=false)(hk:k<=l.length)(hn:200000+40*(l.length-k)+10<=n+1)(hn':200000+40*(l.length-k)+10<=n'+2):SP (o4 l k (G V 0) p0) (fE (Z:=Nod) l k) (a1R n (j5.fs n) l k size) (a1Y (n'+1) (j4.fs (n'+1)) l size k p0):=by
 have e1:(j4.fs (n'+1)).a3b=a3m n' (j4.fs n'):=rfl;have pc1:=path_r C (size:=size) (p0:=p0) (n:=n) (n':=n') (Ψ:=j4.fs n') hk zOm zOm;have lp2:=@G.list V;have lp1:=fun{r5 k' xs} (hb:k<l.length)=>c6N C H (n':=n'+1) (k0:=k) zOm zOm (r5:=r5) n n' (k:=k') (xs:=xs);have fin:=And.intro (fun{m xs k r5}=>@c6M l size (n'+1) (j4.fs (n'+1)) p0 r5 m xs k) (@a0j.eq_2 n' (j4.fs n'));have lf1:=fun{k xs}=>c6O (size:=size) (n:=n) (Φ:=j5.fs n) C.hl (m:=n) (k:=k) (xs:=xs);unfold a1R a1Y;simp only[e1,c6P (show 0<n'+1 by omega),Nat.add_sub_cancel];exact two
end
theorem he:∀n,HE V l size p0 n
 | 0=>by constructor<;>(intros;omega)
 | n+1=>by
  have H:=he n;constructor
  ·intro n' k hk hn hn';obtain⟨n',rfl⟩:∃q,n'=q+1:=⟨n'-1,zOm⟩
   exact e_block C H hk hn hn'
  ·intro n' k hk hn hn';obtain⟨n',rfl⟩:∃q,n'=q+2:=⟨n'-2,zOm⟩
   exact c3e C H hk hn hn'
  ·intro n' k hi hk hn hn';obtain⟨n',rfl⟩:∃q,n'=q+1:=⟨n'-1,zOm⟩
   exact e_cond C H hk hn hn' hi
  ·intro n' k hi hk hn hn';obtain⟨n',rfl⟩:∃q,n'=q+1:=⟨n'-1,zOm⟩
   exact e_local C H hk hn hn' hi
  ·intro n' k hk hn hn';obtain⟨n',rfl⟩:∃q,n'=q+1:=⟨n'-1,zOm⟩
   exact e_expr C H hk hn hn'
  ·intro n' k hk hn hn';obtain⟨n',rfl⟩:∃q,n'=q+1:=⟨n'-1,zOm⟩
   exact c7c C H hk hn hn'
  ·intro n' k hk hn hn';obtain⟨n',rfl⟩:∃q,n'=q+1:=⟨n'-1,zOm⟩
   exact c8h C H hk hn hn'
  ·intro n' k hi hk hn hn';obtain⟨n',rfl⟩:∃q,n'=q+2:=⟨n'-2,zOm⟩
   exact e_atom C H hi hk hn hn'
  ·intro n' k hi hk hn hn';obtain⟨n',rfl⟩:∃q,n'=q+1:=⟨n'-1,zOm⟩
   exact e_interp C H hi hk hn hn'
  ·intro n' k hi hk hn hn';obtain⟨n',rfl⟩:∃q,n'=q+1:=⟨n'-1,zOm⟩
   exact c8g C H hk hi hn hn'
  ·intro n' k m0 hk hm hn hn';obtain⟨n',rfl⟩:∃q,n'=q+1:=⟨n'-1,zOm⟩
   exact e_args C H hk hm hn hn'
  ·intro n' j k hj hk hn hn';exact e_lev C H hk hj hn hn'
  ·intro n' k hk hn hn';obtain⟨n',rfl⟩:∃q,n'=q+1:=⟨n'-1,zOm⟩
   exact e_stmts C H hk hn hn'
  ·intro n' k hi hk hn hn';obtain⟨n',rfl⟩:∃q,n'=q+1:=⟨n'-1,zOm⟩
   exact e_match C H hi hk hn hn'
  intro n' k op hk hn hn';show SP _ _ (a5i n (j5.fs n) op l k size) _;unfold a5i;exact two
end
end Go.Proofs.YtimgnjbjbdgmaaaGreatDoor
