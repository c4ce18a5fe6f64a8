/- Texts of ParseValid, joined. -/
import Derived.Test.YtimgnjbjbdgmaaaGreatDoorParseValidJ16
set_option maxRecDepth 100000
set_option maxHeartbeats 20000000
set_option linter.all false
namespace Go.Proofs.YtimgnjbjbdgmaaaGreatDoor
open Go Go.Vm
variable {pl:Int} {m0:List Nod} {k k0 n n':Nat}
section
variable {V:Int->Str->Prop} {l:List Tok} {size:Int} (C:Cx V l)
include C
omit C in
theorem dots_f {n:Nat}{Ψ:A8}{pl:Int}:∀{m:Nat} {t:Typ} {k:Int},0<m->a4i n Ψ size l pl m false k t=some (false,k,t)
 | m+1,_,_,_=>rfl
omit C in
theorem b4a {n:Nat}{Ψ:A8}{pl:Int}:∀{m:Nat} {xs:List Typ} {k:Int},0<m->a0w n Ψ size l pl m xs false k=some (.brk (xs,k))
 | m+1,_,_,_=>rfl
theorem dots_l {n n' k0:Nat}{Φ:D5}{Ψ:A8}{pl:Int}:∀(m m':Nat) {k:Nat} {t:Typ},k0<k->k<=l.length->l.length+1<m+k->l.length+1<m'+k->t.sz+k0<=k->GT V true t -> ∀(A B:Type) (Q:A->B->Prop) (f:Int×Typ->Option A) (g:Rs (Typ×Int) (Int×Int)->Option A) (h:Bool×Int×Typ->Option B),(∀{t:Typ} {q:Nat},k0<q->q<=l.length->t.sz+k0<=q->GT V true t->S2 Q (f ((q:Int),t)) (h (true,(q:Int),t))) ->(∀{e:Int} {q:Nat} {t:Typ},k0<=q->q<=l.length->S2 Q (g (.pan (e,(q:Int)))) (h (false,(q:Int),t)))->S2 Q (bS (a1u n Φ false size l m k t) f g) ((a4i n' Ψ size l pl m' true k t).bind h)
 | 0,_,_,_,_,_,_,_,_,_=>zOm
 | m+1,m',k,t,h1,h2,h3,h3',h4,h5=>by
  obtain⟨m',rfl⟩:∃q,m'=q+1:=⟨m'-1,zOm⟩
  have ih:=fun{k t}=>dots_l (n:=n) (n':=n') (k0:=k0) (Φ:=Φ) (Ψ:=Ψ) (pl:=pl) m m' (k:=k) (t:=t);have fin:=fun{m t k}=>@dots_f l size n' Ψ pl m t k;rw[a1u.eq_2,a4i.eq_2];exact two
omit C in
theorem b56 {n:Nat}{Ψ:A8}{pl:Int}:∀{m:Nat} {xs:List Typ} {k:Int},0<m->a0w n Ψ size l pl m xs true k =(Ψ.K4 l size k pl).bind fun x=>cond (!x.2.1) (some (.out (xs,false,x.2.2))) ((app 56 xs [x.1]).bind fun l8=>(p9 [44] l size x.2.2 pl).bind fun y=>a0w n Ψ size l pl (m-1) l8 y.1 y.2)
 | m+1,_,_,_=>rfl
omit C in
theorem args_f {n:Nat}{Φ:D5}(hl:l.length<=3000):∀{m k:Nat} {xs:List Typ},isT l 8 [44] k=false->0<m->k<=l.length -> ∀{A B:Type} {Q:A->B->Prop} {f:List Typ×Int->Option A} {g:Rs (Typ×Int) (Int×Int)->Option A} {R:Option B},S2 Q (f (xs,(k:Int))) R->S2 Q (bS (a2C n Φ size l m xs k) f g) R
 | m+1,k,xs,h,_,hk,_,_,_,_,_,_,g=>by
  rw[a2C.eq_2,b43 hl hk,h];exact g
theorem args_l {n n' k0:Nat}{Φ:D5}{Ψ:A8}{pl:Int}(pr1:∀{k:Nat},k<=l.length->k0<k->SP (oT l k (GT V false) 0) (f3 (Z:=Typ) l k) (Φ.J6 l k size) (Ψ.K4 l size k pl)):∀(m m':Nat) {k:Nat} {xs:List Typ},isT l 8 [44] k=true->k0<=k->k<=l.length->l.length+1<m+k->l.length+1<m'+k->szT xs+k0<=k ->(∀x∈xs,GT V false x)->SL (R':=Typ×Int) (oTs l k0 V) (f3 (Z:=List Typ) l k0) (a2C n Φ size l m xs k) (a0w n' Ψ size l pl m' xs true ((k+1:Nat):Int))
 | 0,_,_,_,_,_,_,_,_,_,_=>zOm
 | m+1,m',k,xs,h0,h1,h2,h3,h3',h4,h5=>by
  obtain⟨m',rfl⟩:∃q,m'=q+1:=⟨m'-1,zOm⟩
  have ih:=fun{k:Nat} {xs:List Typ}=>args_l (n:=n) (n':=n') (k0:=k0) pr1 m m' (k:=k) (xs:=xs);have fin:=fun{m xs k}=>@b4a l size n' Ψ pl m xs k;have lf1:=fun{k xs}=>args_f (size:=size) (n:=n) (Φ:=Φ) C.hl (m:=m) (k:=k) (xs:=xs);rw[a2C.eq_2,b56 zOm];simp only[Nat.add_sub_cancel];exact two
omit C in
theorem c6V {n:Nat}{Φ:D5}(hl:l.length<=3000):∀{m k:Nat} {xs:List Typ},isT l 8 [44] k=false->0<m->k<=l.length -> ∀{A B:Type} {Q:A->B->Prop} {f:List Typ×Int->Option A} {g:Rs (Typ×Int) (Int×Int)->Option A} {R:Option B},S2 Q (f (xs,(k:Int))) R->S2 Q (bS (a3i n Φ size l m xs k) f g) R
 | m+1,k,xs,h,_,hk,_,_,_,_,_,_,g=>by
  rw[a3i.eq_2,b43 hl hk,h];exact g
theorem c6W {n n' k0:Nat}{Φ:D5}{Ψ:A8}{pl:Int}(pr1:∀{k:Nat},k<=l.length->k0<k->SP (oT l k (GT V false) 0) (f3 (Z:=Typ) l k) (Φ.J6 l k size) (Ψ.K4 l size k pl)):∀(m m':Nat) {k:Nat} {xs:List Typ},isT l 8 [44] k=true->k0<=k->k<=l.length->l.length+1<m+k->l.length+1<m'+k->szT xs+k0<=k ->(∀x∈xs,GT V false x)->SL (R':=Typ×Int) (oTs l k0 V) (f3 (Z:=List Typ) l k0) (a3i n Φ size l m xs k) (a0w n' Ψ size l pl m' xs true ((k+1:Nat):Int))
 | 0,_,_,_,_,_,_,_,_,_,_=>zOm
 | m+1,m',k,xs,h0,h1,h2,h3,h3',h4,h5=>by
  obtain⟨m',rfl⟩:∃q,m'=q+1:=⟨m'-1,zOm⟩
  have ih:=fun{k:Nat} {xs:List Typ}=>c6W (n:=n) (n':=n') (k0:=k0) pr1 m m' (k:=k) (xs:=xs);have fin:=fun{m xs k}=>@b4a l size n' Ψ pl m xs k;have lf1:=fun{k xs}=>c6V (size:=size) (n:=n) (Φ:=Φ) C.hl (m:=m) (k:=k) (xs:=xs);rw[a3i.eq_2,b56 zOm];simp only[Nat.add_sub_cancel];exact two
omit C in
theorem rnamed (s:Str)(a:List Typ)(q:Int):(Option.bind (α:=Int) (
 Option.bind (α:=Bool) (
 cond (eqB (List.length a:Int) 0) (
 some (eqS s [73,110,116])) (
 some false)) fun x555 =>
 cond x555 (
 some 1) (
 Option.bind (α:=Bool) (
 cond (eqB (List.length a:Int) 0) (
 some (eqS s [66,111,111,108])) (
 some false)) fun x556 =>
 cond x556 (
 some 2) (
 Option.bind (α:=Bool) (
 cond (eqB (List.length a:Int) 0) (
 some (eqS s [84,101,120,116])) (
 some false)) fun x557 =>
 cond x557 (
 some 3) (
 Option.bind (α:=Bool) (
 cond (eqB (List.length a:Int) 0) (
 some (eqS s [85,110,105,116])) (
 some false)) fun x558 =>
 cond x558 (
 some 4) (
 Option.bind (α:=Bool) (
 cond (eqB (List.length a:Int) 1) (
 some (eqS s [65,114,114,97,121])) (
 some false)) fun x559 =>
 cond x559 (
 some 5) (
 Option.bind (α:=Bool) (
 cond (eqB (List.length a:Int) 1) (
 some (eqS s [87,101,97,107])) (
 some false)) fun x560 =>
 cond x560 (
 some 11) (
 some 6))))))) fun b5s =>
 Option.bind (α:=Str) (
 cond (!eqB b5s 6) (
 some []) (
 some s)) fun s562 =>
 some (((⟨b5s,s562,0,a⟩:Typ),true,q)))=some (b6V s a,true,q):=by
 have h:=b8S s a;unfold b6V kindOf;rcases a with _ |⟨x,_ |⟨y,r⟩⟩
 ·rw[show eqB (List.length ([]:List Typ):Int) 0=true from a5O rfl,show eqB (List.length ([]:List Typ):Int) 1=false from a5N zSi];cases eqS s [73,110,116]<;>cases eqS s [66,111,111,108]<;>cases eqS s [84,101,120,116]<;>cases eqS s [85,110,105,116]<;>simp[eqB]
 ·rw[show eqB (List.length [x]:Int) 0=false from a5N zSi,show eqB (List.length [x]:Int) 1=true from a5O zSi];cases h1:eqS s [65,114,114,97,121]<;>cases h2:eqS s [87,101,97,107]<;>simp[eqB]
 rw[show eqB (List.length (x::y::r):Int) 0=false from a5N (by simp;omega),show eqB (List.length (x::y::r):Int) 1=false from a5N (by simp;omega)];simp[eqB]
theorem base_r {a:Nat}{b:Bool}(hk:k<=l.length)(hn:10000<=n)(ha:10000<=a)(pr1:∀{q:Nat},q<=l.length->k<q->SP (oT l q (GT V false) 0) (f3 (Z:=Typ) l q) ((D5.fs n).J6 l q size) ((A8.fs a).K4 l size q pl))(A B:Type)(Q:A->B->Prop)(f:Typ×Int->Option A)(g:Int×Int->Option A)(h:Typ×Bool×Int->Option B)(c:∀{t:Typ} {q:Nat},k<q->q<=l.length->t.sz+k<=q->GT V true t->S2 Q (bS (a1u n (D5.fs n) b size l n q t) (fun x=>f (x.2,x.1)) fun r=>D6 (some r) f g) (h (t,true,(q:Int))))(hpan:∀{e:Int} {q:Nat} {z:Typ},k<=q->q<=l.length->S2 Q (g (e,(q:Int))) (h (z,false,(q:Int)))):S2 Q (D6 (a3h n (D5.fs n) b l k size) f g) ((a1Z (a+1) (A8.fs (a+1)) l size k pl).bind h):=by
 have e4:(A8.fs (a+1)).Y8=a0k a (A8.fs a):=rfl;have lp1:=fun{k' xs}=>args_l C (size:=size) (n:=n) (n':=a) (k0:=k) (pl:=pl) pr1 n (a-1) (k:=k') (xs:=xs);have pc1:=@c;have fin:=@b4a l size a (A8.fs a) pl;have lf1:=fun{k xs}=>args_f (size:=size) (n:=n) (Φ:=D5.fs n) C.hl (m:=n) (k:=k) (xs:=xs);unfold a3h a1Z;simp only[e4,rnamed];unfold a0k;generalize D5.fs n=Φ1 at *;generalize A8.fs a=Ψ1 at *;exact two
theorem ht2:∀(N n n':Nat) {k:Nat} {pl:Int},n<=N->k<=l.length->30000+40*(l.length-k)<=n->30000+40*(l.length-k)<=n'->SP (oT l k (GT V false) 0) (f3 (Z:=Typ) l k) ((D5.fs n).J6 l k size) ((A8.fs n').K4 l size k pl)
 | 0,n,n',k,pl,h0,hk,h1,h2=>zOm
 | N+1,n,n',k,pl,h0,hk,h1,h2=>by
  obtain⟨n,rfl⟩:∃q,n=q+2:=⟨n-2,zOm⟩
  obtain⟨a,rfl⟩:∃q,n'=q+4:=⟨n'-4,zOm⟩
  have pr0:=fun(b c:Nat) {q:Nat} {pl:Int} (g0:b<=n+1) (g1:q<=l.length) (g2:30000+40*(l.length-q)<=b) (g3:30000+40*(l.length-q)<=c)=>ht2 N b c (k:=q) (pl:=pl) zOm g1 g2 g3;have pr1:=fun{q:Nat} (g1:q<=l.length) (g2:k<q)=>pr0 n (a+1) (q:=q) (pl:=pl) zOm g1 zOm zOm;have pr2:=fun{q:Nat} (g1:q<=l.length) (g2:k<q)=>pr0 (n+1) (a+2) (q:=q) (pl:=pl) zOm g1 zOm zOm;have pr3:=fun{q:Nat} (g1:q<=l.length) (g2:k<q)=>pr0 (n+1) (a+3) (q:=q) (pl:=pl) zOm g1 zOm zOm;have e1:(D5.fs (n+1)).a1d=a3h n (D5.fs n):=rfl;have e2:(A8.fs (a+3)).a1f=a1Z (a+2) (A8.fs (a+2)):=rfl;have e3:(A8.fs (a+3)).Y8=a0k (a+2) (A8.fs (a+2)):=rfl;have lp1:=base_r C (n:=n) (a:=a+1) (b:=false) (pl:=pl) hk zOm zOm pr1;have lp2:=fun{k' xs}=>c6W C (size:=size) (n:=n+1) (n':=a+2) (k0:=k) (pl:=pl) pr2 (n+1) (a+2-1) (k:=k') (xs:=xs);have pc1:=fun{Ψ k' t}=>dots_l C (size:=size) (n:=n) (n':=a+3) (k0:=k) (Φ:=D5.fs n) (Ψ:=Ψ) (pl:=pl) n (a+3) (k:=k') (t:=t);show SP (oT l k (GT V false) 0) (f3 (Z:=Typ) l k) (a5k (n+1) (D5.fs (n+1)) l k size) (a5r (a+3) (A8.fs (a+3)) l size k pl);generalize D5.fs (n+1)=Φ1 at *;generalize D5.fs n=Φ0 at *;generalize A8.fs (a+3)=Ψ3 at *;generalize A8.fs (a+2)=Ψ2 at *;have fin:=And.intro (@b4a l size (a+2) Ψ2 pl) (@dots_f l size (a+3) Ψ3 pl);have lf2:=fun{k xs}=>c6V (size:=size) (n:=n+1) (Φ:=Φ1) C.hl (m:=n+1) (k:=k) (xs:=xs);unfold a5k a5r;simp only[e1,e2,e3];unfold a0k;exact two
omit C in
theorem bounds_f {n:Nat}{pl:Int}:∀{m:Nat} {xs:List Nod} {k:Int},0<m->a2X n size l pl m xs false k=some (.brk (xs,k))
 | m+1,_,_,_=>rfl
theorem bounds_l (hn:200000<=n)(hn':200000<=n')(hm:m0.length<=40000):∀m,LP l m k0 (∀x ∈ ·,G V 7 x) m0 (fun k P=>SB (oL l k P m0) (f3 (Z:=List Nod) l k)) (fun k xs=>a4N n size l m xs k) (fun m k zs=>a2X n' size l pl m zs true k):=lpI fun m ih m' k xs h1 h2 h3 h3' h4 h5=>by
 have fin:=fun{m xs k}=>@bounds_f l size n' pl m xs k;simp only[a4N,a2X];exact two
theorem bounds_r (hk:k<=l.length)(hn:200000<=n)(hn':200000<=n'):SP (oM l k (∀x ∈ ·,G V 7 x) []) (f3 (Z:=List Nod) l k) (a3g n l k size) (a3k n' l size k pl):=by
 have lp1:=fun{m' k' xs zs}=>bounds_l C (size:=size) (n:=n) (n':=n') (k0:=k) (pl:=pl) (m0:=[]) hn hn' (Nat.zero_le _) n m' k' xs zs;unfold a3g a3k;exact two
omit C in
theorem gens_f {n:Nat}{pl:Int}:∀{m:Nat} {xs:List Nod} {k:Int},0<m->a2h n size l pl m xs false k=some (.brk (xs,k))
 | m+1,_,_,_=>rfl
theorem gens_l (hn:200000<=n)(hn':200000<=n')(hm:m0.length<=40000):∀m,LP l m k0 (∀x ∈ ·,G V 8 x) m0 (fun k P=>SL (R':=List Nod×Int) (oL l k P m0) (f3 (Z:=List Nod) l k)) (fun k xs=>a3R n size l m xs k) (fun m k zs=>a2h n' size l pl m zs true k):=lpI fun m ih m' k xs h1 h2 h3 h3' h4 h5=>by
 have fin:=fun{m xs k}=>@gens_f l size n' pl m xs k;simp only[a3R,a2h];exact two
theorem gens_r (hk:k<=l.length)(hn:200000<=n)(hn':200000<=n')(hm:m0.length<=40000):SP (oM l k (∀x ∈ ·,G V 8 x) m0) (f3 (Z:=List Nod) l k) (a0t n l k size) (a1b n' m0 l size k pl):=by
 have lp1:=fun{m' k' xs zs}=>gens_l C (size:=size) (n:=n) (n':=n') (k0:=k) (pl:=pl) (m0:=m0) hn hn' hm n m' k' xs zs;unfold a0t a1b;exact two
theorem typ_r (hk:k<=l.length)(hn:200000<=n)(hn':200000<=n'):SP (oT l k (GT V false) 0) (f3 (Z:=Typ) l k) (J6 n l k size) (K4 n' l size k pl):=have hl:=C.hl;ht2 C n n n' (Nat.le_refl _) hk zOm zOm
omit C in
theorem where_f {n:Nat}{pl:Int}:∀{m:Nat} {xs:List Nod} {k:Int},0<m->a3E n size l pl m xs false k=some (.brk (xs,k))
 | m+1,_,_,_=>rfl
theorem where_l (hn:200000<=n)(hn':200000<=n')(hm:m0.length<=40000):∀m,LP l m k0 (∀x ∈ ·,G V 9 x) m0 (fun k P=>SB (oL l k P m0) (f3 (Z:=List Nod) l k)) (fun k xs=>a5z n size l m xs k) (fun m k zs=>a3E n' size l pl m zs true k):=lpI fun m ih m' k xs h1 h2 h3 h3' h4 h5=>by
 have fin:=fun{m xs k}=>@where_f l size n' pl m xs k;simp only[a5z,a3E];exact two
theorem where_r (hk:k<=l.length)(hn:200000<=n)(hn':200000<=n')(hm:m0.length<=40000):SP (oM l k (∀x ∈ ·,G V 9 x) m0) (f3 (Z:=List Nod) l k) (a3J n l k size) (a3N n' m0 l size k pl):=by
 have lp1:=fun{m' k' xs zs}=>where_l C (size:=size) (n:=n) (n':=n') (k0:=k) (pl:=pl) (m0:=m0) hn hn' hm n m' k' xs zs;unfold a3J a3N;exact two
omit C in
theorem params_f {n:Nat}{pl:Int}:∀{m:Nat} {xs:List Nod} {k:Int},0<m->a3a n size l pl m xs false k=some (.brk (xs,k))
 | m+1,_,_,_=>rfl
theorem params_l (hn:200000<=n)(hn':200000<=n')(hm:m0.length<=40000):∀m,LP l m k0 (∀x ∈ ·,G V 4 x) m0 (fun k P=>SL (R':=List Nod×Int) (oL l k P m0) (f3 (Z:=List Nod) l k)) (fun k xs=>a4R n size l m xs k) (fun m k zs=>a3a n' size l pl m zs true k):=lpI fun m ih m' k xs h1 h2 h3 h3' h4 h5=>by
 have fin:=fun{m xs k}=>@params_f l size n' pl m xs k;simp only[a4R,a3a];exact two
theorem params_n (hk:k<=l.length)(h:isT l 8 [40] k=false){A B:Type}{Q:A->B->Prop}{f:List Nod×Int->Option A}{g:Int×Int->Option A}{R:Option B}(g':S2 Q (g (a2z l size k,(k:Int))) R):S2 Q (D6 (a05 n l k size) f g) R:=by
 unfold a05;have hl:=C.hl;rw[want_v hl hk,h];exact g'
theorem params_r (h:isT l 8 [40] k=true)(hk:k<=l.length)(hn:200000<=n)(hn':200000<=n')(hm:m0.length<=40000):SP (oM l k (∀x ∈ ·,G V 4 x) m0) (f3 (Z:=List Nod) l k) (a05 n l k size) (a3l n' m0 l size ((k+1:Nat):Int) pl):=by
 have hb:=a8i h;have lp1:=fun{m' k' xs zs}=>params_l C (size:=size) (n:=n) (n':=n') (k0:=k) (pl:=pl) (m0:=m0) hn hn' hm n m' k' xs zs;unfold a05 a3l;exact two
end
end Go.Proofs.YtimgnjbjbdgmaaaGreatDoor
