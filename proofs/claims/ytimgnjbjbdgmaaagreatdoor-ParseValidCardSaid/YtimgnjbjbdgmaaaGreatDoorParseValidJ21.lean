/- Texts of ParseValid, joined. -/
import Derived.Test.YtimgnjbjbdgmaaaGreatDoorParseValidJ20
set_option maxRecDepth 100000
set_option maxHeartbeats 20000000
set_option linter.all false
namespace Go.Proofs.YtimgnjbjbdgmaaaGreatDoor
open Go Go.Vm
variable {m0:List Nod} {k k0 n:Nat} {n1:Nod} {r11 r6:Str}
section
variable {V:Int->Str->Prop} {l:List Tok} {size p0:Int} (C:Cx V l)
include C
theorem c6Y (hk:k<=l.length)(hn:400000<=n):SP (o4 l k (G V 2) p0) (fE (Z:=Nod) l k) (N7 n l k size) (K9 n l size k p0):=have hl:=C.hl;(he C n).f_block hk zOm zOm
theorem func_r (hk:k<=l.length)(hn:400000<=n):SP (o4 l k (G V 11) p0) (fE (Z:=Nod) l k) (a09 n l k size) (Q8 n true l size k p0):=c5H C hk zOm fun hk=>c6Y C hk hn
theorem func_n (h:isT l 9 [102,117,110,99] k=false)(hk:k<=l.length)(hn:400000<=n){A B:Type}{Q:A->B->Prop}{L:Option A}{f:Nod×Bool×Int×Int->Option B}(g:S2 Q L (f (⟨7,[],0,uT,[],[],a2z l size k⟩,false,(k:Int),p0))):S2 Q L ((Q8 n true l size k p0).bind f):=by
 unfold Q8;simp only[NF,c6t C.hl hk,rkey_v C.hl hk,h];exact g
theorem prot_l5 (hn:400000<=n):∀m,LP l m k0 (∀x ∈ ·,G V 16 x) [] (fun k P=>SL (R':=Nod×Int) (fun c=>∀{x:List Nod} {q:Nat},k<=q->q<=l.length->szN x+4*k<=4*q->x.length<=4*q->P x->c ((q:Int),x) (x,(q:Int))) (f4 (Z:=Nod) l k)) (fun k xs=>a3S n size l m k xs) (fun m k zs=>a3T n size l n1 p0 r6 m zs k):=lpI fun m ih m' k xs h1 h2 h3 h3' h4 h5=>by
 simp only[a3S,a3T];exact two
theorem prot_l12 (hn:400000<=n):∀m,LP l m k0 (PRX V) [] (fun k P=>SL (R':=Nod×Int) (fun c=>∀{x:List Nod} {q:Nat},k<=q->q<=l.length->szN x+4*k<=4*q->x.length<=4*q->P x->c ((q:Int),x) (x,(q:Int),p0)) (f4 (Z:=Nod) l k)) (fun k xs=>a3u n size l m k xs) (fun m k zs=>a3v n size l n1 r6 m zs k p0):=lpI fun m ih m' k xs h1 h2 h3 h3' h4 h5=>by
 simp only[a3u,a3v];exact two
theorem c6m {a s}(hi:isT l 9 [112,114,111,116,111,99,111,108] k=true)(hk:k<=l.length)(hn:400000<=n):SP (o4 l k (G V 18) p0) (f4 (Z:=Nod) l k) (a3y n l k size) (a3C n ⟨5,s,0,zT,[],a,a2z l size k⟩ l size ((k+1:Nat):Int) p0):=by
 have hb:=a8i hi;have lp1:=fun{n1 r6 m' k' xs zs}=>prot_l5 C (n:=n) (k0:=k) (n1:=n1) (r6:=r6) (size:=size) (p0:=p0) hn n m' k' xs zs;have lp2:=fun{n1 r6 m' k' xs zs}=>prot_l12 C (n:=n) (k0:=k) (n1:=n1) (r6:=r6) (size:=size) (p0:=p0) hn n m' k' xs zs;unfold a3y a3C;exact two
theorem ext_l8 {r6:Typ}(hn:400000<=n):∀m,LP l m k0 (EXA V) [] (fun k P=>SL (R':=Nod×Int) (fun c=>∀{x:List Nod} {q:Nat},k<=q->q<=l.length->szN x+4*k<=4*q->x.length<=4*q->P x->c ((q:Int),x) (x,(q:Int))) (fE (Z:=Nod) l k)) (fun k xs=>a4O n size l m k xs) (fun m k zs=>a4r n size l n1 p0 r11 r6 m zs k):=lpI fun m ih m' k xs h1 h2 h3 h3' h4 h5=>by
 simp only[a4O,a4r];exact two
theorem ext_l16 {r6:Typ}(hn:400000<=n):∀m,LP l m k0 (EXX V) [] (fun k P=>SL (R':=Nod×Int) (fun c=>∀{x:List Nod} {q:Nat},k<=q->q<=l.length->szN x+4*k<=4*q->x.length<=4*q->P x->c ((q:Int),x) (x,(q:Int),p0)) (fE (Z:=Nod) l k)) (fun k xs=>a4p n size l m k xs) (fun m k zs=>a4s n size l n1 r11 r6 m zs k p0):=lpI fun m ih m' k xs h1 h2 h3 h3' h4 h5=>by
 have pr1:=fun{q}=>func_r C (n:=n) (k:=q) (size:=size) (p0:=p0);simp only[a4p,a4s];exact two
theorem extend_r {a s t}(hi:isT l 9 [101,120,116,101,110,100] k=true)(hk:k<=l.length)(hn:400000<=n):SP (o4 l k (G V 18) p0) (fE (Z:=Nod) l k) (a4F n l k size) (a4K n ⟨6,s,0,t,[],a,a2z l size k⟩ l size ((k+1:Nat):Int) p0):=by
 have hb:=a8i hi;have lp1:=fun{k0 q:Nat} {n1 r11 r6 m' k' xs zs} (hx:szN xs+4*k0<=4*q)=>ext_l8 C (n:=n) (k0:=k0) (n1:=n1) (r11:=r11) (r6:=r6) (size:=size) (p0:=p0) hn n m' k' xs zs;have lp2:=fun{k0 q:Nat} {n1 r11 r6 m' k' xs zs} (hx:szN xs+4*k0<=4*q)=>ext_l16 C (n:=n) (k0:=k0) (n1:=n1) (r11:=r11) (r6:=r6) (size:=size) (p0:=p0) hn n m' k' xs zs;unfold a4F a4K;exact two
theorem rec_l (hn:400000<=n)(hm:m0.length<=40000):∀m,LP l m k0 (∀x ∈ ·,G V 13 x) m0 (fun k P=>SL (R':=List Nod×Int) (oL l k P m0) (fE (Z:=Nod) l k)) (fun k xs=>a4P n size l m xs k) (fun m k zs=>a4W n size l n1 p0 r6 m zs k):=lpI fun m ih m' k xs h1 h2 h3 h3' h4 h5=>by
 simp only[a4P,a4W];exact two
omit C in
theorem case_n {n:Nat}{ys:List Nod}{d:Int}(hl:l.length<=3000):∀{m k:Nat} {xs:List Typ},isT l 8 [44] k=false->0<m->k<=l.length -> ∀{A B:Type} {Q:A->B->Prop} {f:List Nod×Int×Int×List Typ->Option A} {g:Rs (List Nod×Int) (Int×Int)->Option A} {R:Option B},S2 Q (f (ys,(k:Int),d,xs)) R->S2 Q (bS (a1L n size l m ys k d xs) f g) R
 | m+1,k,xs,h,_,hk,_,_,_,_,_,_,g=>by
  rw[a1L.eq_2,b43 hl hk,h];exact g
theorem case_l {n n' k0:Nat}{ys:List Nod}{d:Int}(hn:200000<=n)(hn':200000<=n'):∀(m m':Nat) {k:Nat} {xs:List Typ},isT l 8 [44] k=true->k0<=k->k<=l.length->l.length+1<m+k->l.length+1<m'+k->szT xs+k0<=k ->(∀x∈xs,GT V false x)->SL (R':=List Nod×Int) (fun c=>∀{x:List Typ} {q:Nat},k0<=q->q<=l.length->szT x+k0<=q->x.length<=4*q ->(∀t∈x,GT V false t)->c (ys,(q:Int),d,x) (x,(q:Int))) (f3 (Z:=List Typ) l k0) (a1L n size l m ys k d xs) (a0w n' (A8.fs n') size l p0 m' xs true ((k+1:Nat):Int))
 | 0,_,_,_,_,_,_,_,_,_,_=>zOm
 | m+1,m',k,xs,h0,h1,h2,h3,h3',h4,h5=>by
  obtain⟨m',rfl⟩:∃q,m'=q+1:=⟨m'-1,zOm⟩
  have ih:=fun{k:Nat} {xs:List Typ}=>case_l (n:=n) (k0:=k0) (ys:=ys) (d:=d) hn hn' m m' (k:=k) (xs:=xs);have fin:=fun{m xs k}=>@b4a l size n' (A8.fs n') p0 m xs k;have lf1:=fun{k xs}=>case_n (size:=size) (n:=n) (ys:=ys) (d:=d) C.hl (m:=m) (k:=k) (xs:=xs);rw[a1L.eq_2,b56 zOm];simp only[Nat.add_sub_cancel];exact two
theorem enum_l (hn:400000<=n)(hm:m0.length<=40000):∀m,LP l m k0 (∀x ∈ ·,G V 15 x) m0 (fun k P p r=>∀(A B:Type) (Q:A->B->Prop) (f:List Nod×Int->Option A) (g:Rs (List Nod×Int) (Int×Int)->Option A) (h:List Nod×Int->Option B) (o:Nod×Bool×Int->Option B),(∀{x z:List Nod} {q:Nat},z=m0++x->isT l 8 [125] q=true->k<=q->q<l.length->szN x+4*k<=4*q->x.length<=4*q->P x->S2 Q (f (x,((q+1:Nat):Int))) (h (z,(q:Int)))) ->(∀{e:Int} {z:List Nod} {q:Nat},isT l 8 [125] q=false->k<=q->q<=l.length->S2 Q (g (.pan (e,(q:Int)))) (h (z,(q:Int))))->f3 (Z:=Nod) l k (fun e y=>S2 Q (g (.pan e)) (o y))->S2 Q (bS (p) f g) (bS (r) h o)) (fun k xs=>a5v n size l m xs k) (fun m k zs=>a5X n size l n1 p0 r6 m zs k):=lpI fun m ih m' k xs h1 h2 h3 h3' h4 h5=>by
 obtain⟨a,rfl⟩:∃q,n=q+1:=⟨n-1,zOm⟩
 have e1:∀l2 z1 z2 z3,Y8 (a+1) l2 z1 z2 z3=a0k a (A8.fs a) l2 z1 z2 z3:=fun _ _ _ _=>rfl;have lp1:=fun{ys d k' xs}=>case_l C (n:=a+1) (n':=a) (k0:=k) (ys:=ys) (d:=d) (size:=size) (p0:=p0) zOm zOm (a+1) (a-1) (k:=k') (xs:=xs);have fin:=fun{m xs k}=>@b4a l size a (A8.fs a) p0 m xs k;have lf1:=fun{ys d k xs}=>case_n (size:=size) (n:=a+1) (ys:=ys) (d:=d) C.hl (m:=a+1) (k:=k) (xs:=xs);intro A B Q f g h o hok hx hpan;have pc1:=@hx;simp only[a5v,a5X,e1,a0k,b56 (show 0<a by omega)];exact two
theorem decl_r (hk:k<=l.length)(hn:400000<=n):SP (o4 l k (G V 18) p0) (fE (Z:=Nod) l k) (a0m n l k size) (a0o n l size k p0):=by
 have fin:w64 (0+1)=1/\w64 (1+2)=3/\w64 (0+2)=2/\IntKind.wrap .i64 ((BitVec.ofInt 64 0 &&& BitVec.ofInt 64 1).toNat:Nat)=0/\IntKind.wrap .i64 ((BitVec.ofInt 64 1 &&& BitVec.ofInt 64 1).toNat:Nat)=1/\IntKind.wrap .i64 ((BitVec.ofInt 64 2 &&& BitVec.ofInt 64 1).toNat:Nat)=0/\IntKind.wrap .i64 ((BitVec.ofInt 64 3 &&& BitVec.ofInt 64 1).toNat:Nat)=1:=by
  refine⟨zDe,zDe,zDe,?_,?_,?_,?_⟩<;>first|rfl|decide|simp[IntKind.wrap,IntKind.bits,IntKind.signed]
 have lp1:=fun{m0 n1 r6 m' k'} (hm:m0.length<=40000)=>rec_l C (n:=n) (k0:=k') (m0:=m0) (n1:=n1) (r6:=r6) (size:=size) (p0:=p0) hn hm n m' k' [] m0 (List.append_nil _).symm (Nat.le_refl _);have lp2:=fun{m0 n1 r6 m' k'} (hm:m0.length<=40000)=>enum_l C (n:=n) (k0:=k') (m0:=m0) (n1:=n1) (r6:=r6) (size:=size) (p0:=p0) hn hm n m' k' [] m0 (List.append_nil _).symm (Nat.le_refl _);have lf1:=fun{q}=>func_n C (n:=n) (k:=q) (size:=size) (p0:=p0);have pr1:=fun{q}=>func_r C (n:=n) (k:=q) (size:=size) (p0:=p0);have pr2:=fun{q a s}=>c6m C (n:=n) (k:=q) (a:=a) (s:=s) (size:=size) (p0:=p0);have pr3:=fun{q a s t}=>extend_r C (n:=n) (k:=q) (a:=a) (s:=s) (t:=t) (size:=size) (p0:=p0);have pc1:=fun{q}=>c6Y C (n:=n) (k:=q) (size:=size) (p0:=p0);unfold a0m a0o a4G a4L a6R a6z;exact two
end
end Go.Proofs.YtimgnjbjbdgmaaaGreatDoor
