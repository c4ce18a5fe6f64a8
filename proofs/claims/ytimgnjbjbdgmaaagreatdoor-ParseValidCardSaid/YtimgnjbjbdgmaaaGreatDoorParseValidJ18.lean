/- Texts of ParseValid, joined. -/
import Derived.Test.YtimgnjbjbdgmaaaGreatDoorParseValidJ17
set_option maxRecDepth 100000
set_option maxHeartbeats 20000000
set_option linter.all false
namespace Go.Proofs.YtimgnjbjbdgmaaaGreatDoor
open Go Go.Vm
variable {pl:Int} {k n:Nat}
section
variable {V:Int->Str->Prop} {l:List Tok} {size p0:Int} (C:Cx V l)
include C
theorem sign_r (hk:k<=l.length)(hn:200000<=n):SP (fun c=>∀{s:Str} {t:Typ} {x:List Nod} {q:Nat},k<q->q<=l.length->t.sz+szN x+1+4*k<=4*q->x.length<=40000->V 1 s ->(t=uT∨GT V false t)->SGX V x->c (s,t,x,a2z l size k,(q:Int)) (⟨7,s,0,t,[],x,a2z l size k⟩,true,(q:Int),pl)) (f4 (Z:=Nod) l k) (a0S n l k size) (Q8 n false l size k pl):=by
 unfold a0S a1T Q8;exact two
omit C in
theorem fn_0 {gs ps rs:List Nod}{b:Nod}{s:Str}{t:Typ}{a:Int}(h1:V 1 s)(h2:t=uT∨GT V false t)(g1:∀y∈gs,G V 8 y)(g2:∀y∈ps,G V 4 y)(g3:∀y∈rs,G V 9 y)(h3:G V 2 b):G V 11 ⟨7,s,1,t,[],gs ++(ps ++(rs++[b])),a⟩:=by simpa using fn_of (a:=a) h1 h2 (sgx0 g1 g2 g3) h3
omit C in
theorem fn_1 {gs ps rs:List Nod}{u b:Nod}{s:Str}{t:Typ}{a:Int}(h1:V 1 s)(h2:t=uT∨GT V false t)(g1:∀y∈gs,G V 8 y)(g2:∀y∈ps,G V 4 y)(g4:G V 10 u)(g3:∀y∈rs,G V 9 y)(h3:G V 2 b):G V 11 ⟨7,s,1,t,[],gs ++(ps ++(u ::(rs++[b]))),a⟩:=by simpa using fn_of (a:=a) h1 h2 (sgx1 g1 g2 g4 g3) h3
theorem c5H (hk:k<=l.length)(hn:200000<=n)(pr1:∀{k:Nat},k<=l.length->SP (o4 l k (G V 2) p0) (fE (Z:=Nod) l k) (N7 n l k size) (K9 n l size k p0)):SP (o4 l k (G V 11) p0) (fE (Z:=Nod) l k) (a09 n l k size) (Q8 n true l size k p0):=by
 unfold a09 a0S a1T Q8;exact two
omit C in
theorem idxS_ok {s:Str}{i:Nat}(h:i<s.length):idxS s (i:Int)=some ((s[i]).toNat:Int):=by
 have h1:inR (i:Int) s.length=true:=by simp[inR,h]
 simp[idxS,h1,h]
omit C in
theorem wrap8 {a:Int}(h1:0<=a)(h2:a<=255):IntKind.wrap .u8 a=a:=by
 simp only[IntKind.wrap,IntKind.bits,IntKind.signed];simp;omega
omit C in
theorem c3N {n:Nat}{s:Str}(hb:b6g s=true)(hm:a6w s 0<=9223372036854775807)(hlen:s.length<=100):∀(m i acc:Nat),i<=s.length->s.length-i<m->a6w (s.drop i) acc=a6w s 0->a5G n s m (acc:Int) (i:Int)=some ((a6w s 0:Nat):Int)
 | 0,i,acc,h1,h2,h3=>zOm
 | m+1,i,acc,h1,h2,h3=>by
  simp only[a5G];rcases Nat.lt_or_ge i s.length with h|h
  ·rw[List.drop_eq_getElem_cons h,a7O]at h3;have hd:48 <=(s[i]).toNat/\(s[i]).toNat<=57:=by
    simp only[b6g,List.all_eq_true,Bool.and_eq_true,Nat.ble_eq]at hb;exact hb _ (List.getElem_mem h)
   have hg:=c1k (s.drop (i+1)) (acc*10+((s[i]).toNat-48));rw[a04 zOm,cond_true,idxS_ok h,Option.bind_some,a1i (a:=(acc:Int)*10) zOm zOm,wrap8 zOm zOm,a1i (a:=((s[i]).toNat:Int)-48) zOm zOm,a1i (a:=(acc:Int)*10+_) zOm zOm,S9 zOm];rw[show(acc:Int)*10+(((s[i]).toNat:Int)-48) =((acc*10+((s[i]).toNat-48):Nat):Int)from zOm];exact c3N hb hm hlen m (i+1) _ h zOm h3
  rw[a2e zOm,cond_false];rw[List.drop_eq_nil_of_le h]at h3;have h3:acc=a6w s 0:=h3;rw[h3]
omit C in
theorem num_ok {n:Nat}{s:Str}(h:b4K s=true)(hn:100<=n):a2V n s=some ((a6w s 0:Nat):Int):=by
 simp only[b4K,Bool.and_eq_true,Nat.ble_eq]at h;obtain⟨h1,h2,h3,h4⟩:=h;unfold a2V;have:=c3N (n:=n) h1 h4 zOm n 0 0 (Nat.zero_le _) zOm rfl;have this:a5G n s n 0 0=some ((a6w s 0:Nat):Int):=this;rw[this];rfl
omit C in
theorem u_num {n:Nat}{s:Str}{A B:Type}{Q:A->B->Prop}{L:Option A}{f:Int->Option B}(h:b4K s=true)(hn:100<=n)(g:S2 Q L (f ((a6w s 0:Nat):Int))):S2 Q L ((a2V n s).bind f):=by rw[num_ok h hn];exact g
omit C in
theorem u_num0 {n:Nat}{A B:Type}{Q:A->B->Prop}{L:Option A}{f:Int->Option B}(hn:100<=n)(g:S2 Q L (f 0)):S2 Q L ((a2V n []).bind f):=by
 obtain⟨m,rfl⟩:∃m,n=m+1:=⟨n-1,zOm⟩
 have e:a2V (m+1) []=some 0:=by simp[a2V,a5G,ltB]
 rw[e];exact g
omit C in
theorem pat_f {n:Nat}{Ψ:F9}{pl r5:Int}{s:Str}:∀{m:Nat} {xs:List Nod} {k:Int},0<m->a02 n Ψ size l pl s r5 m xs false k=some (.brk (xs,k))
 | m+1,_,_,_=>rfl
omit C in
theorem pat_n {n:Nat}{Φ:G7}(hl:l.length<=3000):∀{m k:Nat} {xs:List Nod},isT l 8 [44] k=false->0<m->k<=l.length -> ∀{A B:Type} {Q:A->B->Prop} {f:Int×List Nod->Option A} {g:Rs (Nod×Int) (Int×Int)->Option A} {R:Option B},S2 Q (f ((k:Int),xs)) R->S2 Q (bS (a1j n Φ size l m k xs) f g) R
 | m+1,k,xs,h,_,hk,_,_,_,_,_,_,g=>by
  rw[a1j.eq_2,b43 hl hk,h];exact g
omit C in
theorem pat_t {n:Nat}{Ψ:F9}{pl r5:Int}{s:Str}:∀{m:Nat} {xs:List Nod} {k:Int},0<m->a02 n Ψ size l pl s r5 m xs true k =(Ψ.V7 l size k pl).bind fun x=>cond (!x.2.1) (some (.out (⟨45,s,0,zT,[],[],r5⟩,false,x.2.2))) ((app 144 xs [x.1]).bind fun l8=>(p9 [44] l size x.2.2 pl).bind fun y=>a02 n Ψ size l pl s r5 (m-1) l8 y.1 y.2)
 | m+1,_,_,_=>rfl
theorem pat_l {n n' k0:Nat}{Φ:G7}{Ψ:F9}{pl r5:Int}{s:Str}(pr1:∀{k:Nat},k<=l.length->k0<k->SP (o3 l k (G V 3)) (f3 (Z:=Nod) l k) (Φ.V5 l k size) (Ψ.V7 l size k pl)):∀(m m':Nat) {k:Nat} {xs:List Nod},isT l 8 [44] k=true->k0<=k->k<=l.length->l.length+1<m+k->l.length+1<m'+k->szN xs+4*k0<=4*k ->(∀x∈xs,G V 3 x)->SL (R':=Nod×Int) (fun c=>∀{x:List Nod} {q:Nat},k0<=q->q<=l.length->szN x+4*k0<=4*q->x.length<=4*q ->(∀y∈x,G V 3 y)->c ((q:Int),x) (x,(q:Int))) (f3 (Z:=Nod) l k0) (a1j n Φ size l m k xs) (a02 n' Ψ size l pl s r5 m' xs true ((k+1:Nat):Int))
 | 0,_,_,_,_,_,_,_,_,_,_=>zOm
 | m+1,m',k,xs,h0,h1,h2,h3,h3',h4,h5=>by
  obtain⟨m',rfl⟩:∃q,m'=q+1:=⟨m'-1,zOm⟩
  have ih:=fun{k:Nat} {xs:List Nod}=>pat_l (n:=n) (n':=n') (k0:=k0) (s:=s) (r5:=r5) pr1 m m' (k:=k) (xs:=xs);have fin:=fun{m xs k}=>@pat_f l size n' Ψ pl r5 s m xs k;have lf1:=fun{k xs}=>pat_n (size:=size) (n:=n) (Φ:=Φ) C.hl (m:=m) (k:=k) (xs:=xs);rw[a1j.eq_2,pat_t zOm];simp only[Nat.add_sub_cancel];exact two
theorem pat_fs:∀(n n':Nat) {k:Nat} {pl:Int},k<=l.length->30000+40*(l.length-k)<=n->30000+40*(l.length-k)<=n'->SP (o3 l k (G V 3)) (f3 (Z:=Nod) l k) ((G7.fs n).V5 l k size) ((F9.fs n').V7 l size k pl)
 | 0,n',k,pl,hk,h1,h2=>zOm
 | n+1,n',k,pl,hk,h1,h2=>by
  obtain⟨a,rfl⟩:∃q,n'=q+1:=⟨n'-1,zOm⟩
  have pr1:=fun{q:Nat} (g1:q<=l.length) (g2:k<q)=>pat_fs n a (k:=q) (pl:=pl) g1 zOm zOm;have lp1:=fun{s k' xs}=>pat_l C (size:=size) (n:=n) (n':=a) (k0:=k) (pl:=pl) (r5:=a2z l size k) (s:=s) pr1 n (a-1) (k:=k') (xs:=xs);have fin:=fun{s m xs k'}=>@pat_f l size a (F9.fs a) pl (a2z l size k) s m xs k';have lf1:=fun{k xs}=>pat_n (size:=size) (n:=n) (Φ:=G7.fs n) C.hl (m:=n) (k:=k) (xs:=xs);show SP (o3 l k (G V 3)) (f3 (Z:=Nod) l k) (a2R n (G7.fs n) l k size) (a3c a (F9.fs a) l size k pl);unfold a2R a3c;exact two
theorem pat_r {n':Nat}(hk:k<=l.length)(hn:200000<=n)(hn':200000<=n'):SP (o3 l k (G V 3)) (f3 (Z:=Nod) l k) (V5 n l k size) (V7 n' l size k pl):=have hl:=C.hl;pat_fs C n n' hk zOm zOm
end
end Go.Proofs.YtimgnjbjbdgmaaaGreatDoor
