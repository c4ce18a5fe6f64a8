/- Texts of ParseValid, joined. -/
import Derived.Test.YtimgnjbjbdgmaaaGreatDoorParseValidJ21
set_option maxRecDepth 100000
set_option maxHeartbeats 20000000
set_option linter.all false
namespace Go.Proofs.YtimgnjbjbdgmaaaGreatDoor
open Go Go.Vm
variable {α:Type} {t:Int} {fs:List Flt} {ds:List Nod} {k m n q:Nat} {x:Option α} {src:Str}
theorem c_v {b:Bool}{y:Option α}(h:∃r,x=some r)(g:∃r,y=some r):∃r,cond b x y=some r:=by cases b;exact g;exact h
theorem b_v {β:Type}{f:α->Option β}(h:∃r,x=some r)(g:∀r,∃s,f r=some s):∃s,x.bind f=some s:=by
 obtain⟨r,rfl⟩:=h;exact g r
theorem c6Z (t:Tok):∃r,a7T t=some r:=by
 unfold a7T;repeat' first|exact⟨_,rfl⟩|apply c_v
theorem begins_v (t:Tok):∃r,a8x t=some r:=by
 unfold a8x;repeat' first|exact⟨_,rfl⟩|apply c_v|apply b_v|intro _
section
variable {V:Int->Str->Prop} {l:List Tok} {size p0:Int} (C:Cx V l)
include C
theorem c4u {n q:Nat}(hn:20000<=n):∀(m i:Nat) (o:Int),i<=l.length->l.length<m+i -> ∃j:Nat,bS (a4S n l m o i q) (fun _=>some (l.length:Int)) some=some (j:Int)/\j<=l.length/\(q<=j∨j=l.length)
 | 0,i,o,h1,h2=>zOm
 | m+1,i,o,h1,h2=>by
  have hl:=C.hl;rw[a4S.eq_2];rcases Nat.lt_or_ge i l.length with h|h
  ·have ih:=fun o=>c4u hn (q:=q) m (i+1) o h zOm;rw[a04 zOm,a5t h,S9 zOm];simp only[NF];rw[b74 (by simp only[List.length_cons,List.length_nil];omega) zSi];simp only[NF];generalize decide ((a4z l i).text∈([[115,116,114,117,99,116],[101,110,117,109],[99,108,97,115,115],[112,114,111,116,111,99,111,108],[101,120,116,101,110,100],[102,117,110,99],[109,111,118,101,111,110,108,121],[102,114,111,122,101,110]]:List Str))=b1;generalize leB o 0=b2;generalize eqB (a4z l i).kind 9=b3;generalize eqB (a4z l i).kind 8=b4;generalize eqS (a4z l i).text [123]=b5;generalize eqS (a4z l i).text [125]=b6;by_cases hq:q<=i
   ·rw[b8y zOm];cases b1<;>cases b2<;>cases b3<;>cases b4<;>cases b5<;>cases b6<;>simp only[NF]<;>first|exact ih _|exact⟨i,rfl,h1,.inl hq⟩
   rw[c0q zOm];cases b4<;>cases b5<;>cases b6<;>simp only[NF]<;>exact ih _
  rw[a2e zOm];exact⟨l.length,rfl,Nat.le_refl _,.inr rfl⟩
theorem c8Q (hn:20000<=n)(hk:k<l.length)(hq:k<=q)(hq2:q<=l.length):∃j:Nat,a4H n k l q size=some (j:Int)/\k<j/\j<=l.length:=by
 have hl:=C.hl;obtain⟨r,hr,hr2,r1⟩:∃r:Nat,cond (eqB (q:Int) (k:Int)) (some (w64 ((q:Int)+1))) (some (q:Int))=some (r:Int)/\k<r/\r<=l.length:=by
  by_cases h:q=k
  ·subst h;rw[a5O rfl,S9 zOm];exact⟨q+1,rfl,zOm,hk⟩
  rw[a5N zOm];exact⟨q,rfl,zOm,hq2⟩
 unfold a4H;rw[hr];simp only[NF];obtain⟨j,j1,j2,j3⟩:=c4u C (q:=r) hn n k 0 zOm zOm;exact⟨j,j1,zOm,j2⟩
theorem rec_6 {n:Nat}{k:Int}:∀(m i:Nat) (o:Int),l.length<m+i->i<=l.length -> ∃r,a6D n l m k o i=some (k,r)
 | 0,i,o,h,h2=>zOm
 | m+1,i,o,h,h2=>by
  have hl:=C.hl;rw[a6D.eq_2];cases ltB (i:Int) k
  ·exact⟨_,rfl⟩
  rcases Nat.lt_or_ge i l.length with h|h
  ·obtain⟨r,hr⟩:=c6Z (a4z l i);rw[a04 zOm,a5t h,S9 zOm];simp only[NF,hr];exact rec_6 m (i+1) _ zOm h
  rw[a2e zOm];exact⟨_,rfl⟩
theorem rec_9 {n:Nat}:∀(m k:Nat) (o:Int),l.length<m+k->k<=l.length -> ∃j:Nat,a6E n l m k o=some (j:Int)/\k<=j/\j<=l.length
 | 0,k,o,h,h2=>zOm
 | m+1,k,o,h,h2=>by
  have hl:=C.hl;rw[a6E.eq_2];rcases Nat.lt_or_ge k l.length with h|h
  ·obtain⟨r,hr⟩:=c6Z (a4z l k);obtain⟨b,hb⟩:=begins_v (a4z l k);obtain⟨j,j1,j2,j3⟩:=rec_9 m (k+1) (w64 (o+r)) zOm h;rw[a04 zOm,a5t h,S9 zOm];simp only[NF,hr,hb];cases b<;>cases leB o 0<;>first|exact⟨j,j1,zOm,j3⟩|exact⟨k,rfl,Nat.le_refl _,h2⟩
  rw[a2e zOm];exact⟨k,rfl,Nat.le_refl _,h2⟩
theorem rec_ok (hn:20000<=n)(hk:k<l.length)(hq:k<=q)(hq2:q<=l.length):∃j:Nat,a6K n l k q=some (j:Int)/\k<j/\j<=l.length:=by
 have hl:=C.hl;obtain⟨r,hr,hr2,r1⟩:∃r:Nat,cond (eqB (q:Int) (k:Int)) (some (w64 ((k:Int)+1))) (some (q:Int))=some (r:Int)/\k<r/\r<=l.length:=by
  by_cases h:q=k
  ·subst h;rw[a5O rfl,S9 zOm];exact⟨q+1,rfl,zOm,hk⟩
  rw[a5N zOm];exact⟨q,rfl,zOm,hq2⟩
 obtain⟨a,ha⟩:=rec_6 C (n:=n) (k:=r) n k 0 zOm zOm;obtain⟨j,j1,j2,j3⟩:=rec_9 C (n:=n) n r a zOm r1;unfold a6K;rw[hr];simp only[NF,ha,j1];exact⟨j,by rw[Int.min_eq_left zOm],zOm,j3⟩
end
theorem c6y:∀(n:Nat) (x:Nod),(U9.fs n).a5g x =(Q5.fs n).a5o x
 | 0,x=>rfl
 | n+1,x=>by
  have h:∀(m:Nat) (a b i:Int),a8X n (U9.fs n) x m a b i=a6L n (Q5.fs n) x m a b i:=by
   intro m;induction m with
   | zero=>exact fun _ _ _=>rfl
   | succ m ih =>
    intro a b i;simp only[a8X,a6L,c6y n,ih]
  show a8o n (U9.fs n) x=a6B n (Q5.fs n) x;unfold a8o a6B;rw[h]
theorem siz_v:∀(k n:Nat) (x:Nod),x.sz<=k->k<=1000000->k<n -> ∃r,a5o n x=some r
 | 0,n,x,h,_,_=>by have:=x.H8;omega
 | k+1,n,x,h,hk,hn=>by
  obtain⟨n,rfl⟩:∃q,n=q+1:=⟨n-1,zOm⟩
  have hx:=x.H8;have hlen:=I8 x.l;have lp:∀(m i:Nat) (a b:Int),x.l.length<m+i->i<=x.l.length -> ∃r,a6L n (Q5.fs n) x m a b i=some r:=by
   intro m;induction m with
   | zero=>intro i a b h h0;omega
   | succ m ih =>
    intro i a b h h0;rw[a6L.eq_2];rcases Nat.lt_or_ge i x.l.length with hi|hi
    ·obtain⟨r,hr⟩:=siz_v k n x.l[i] (by have:=a0L (List.getElem_mem hi);omega) zOm zOm;have hr:(Q5.fs n).a5o x.l[i]=some r:=hr;rw[a04 zOm,a1h hi,S9 zOm];simp only[NF,hr];exact ih (i+1) _ _ zOm hi
    rw[a2e zOm];exact⟨_,rfl⟩
  show ∃r,a6B n (Q5.fs n) x=some r;unfold a6B;exact b_v (lp n 0 1 0 zOm (Nat.zero_le _)) fun _=>⟨_,rfl⟩
section
variable {V:Int->Str->Prop} {l:List Tok} {size:Int} (C:Cx V l)
include C
theorem c9i {m':Nat}{p0:Int}{fs':List Flt}{ds':List Nod}(hn:400000<=n)(hk:k<l.length)(h1:fs.length<20)(h2:fs'.length<20)(h3:ds.length<=50000)(h4:ds'.length<=50000):(∃(f f':Flt) (j j':Nat) (p1:Int),U1 n src l (m+1) t fs ds k=U1 n src l m t (fs++[f]) ds j/\X3 n l src (m'+1) t fs' k p0 ds'=X3 n l src m' t (fs'++[f']) j' p1 ds'/\k<j/\j<=l.length/\k<j'/\j'<=l.length)∨(∃(x:Nod) (q:Nat) (u:Int),U1 n src l (m+1) t fs ds k=U1 n src l m u fs (ds++[x]) q/\X3 n l src (m'+1) t fs' k p0 ds'=X3 n l src m' u fs' q p0 (ds'++[x])/\k<q/\q<=l.length/\x.sz+4*k<=4*q/\G V 18 x):=by
 have hl:=C.hl;have ap:∀(f:Flt),app 16 fs [f]=some (fs++[f]):=fun f=>b7Y zOm zSi zOm;have ap':∀(f:Flt),app 16 fs' [f]=some (fs'++[f]):=fun f=>b7Y zOm zSi zOm;rw[U1.eq_2,X3.eq_2,a04 (show(k:Int)<l.length by omega),a04 (show(fs.length:Int)<20 by omega),a04 (show(fs'.length:Int)<20 by omega),c5K hl zOm];unfold a5T a7F;obtain⟨a,b,e1,e2,hq⟩:=decl_r C (n:=n) (size:=(src.length:Int)) (p0:=p0) (Nat.le_of_lt hk) hn _ _ (fun(a:Rs (Nod×Int) (q9×Int)) (b:Nod×Bool×Int×Int)=>(∃(x:Nod) (q:Nat),a=.ok (x,(q:Int))/\b =(x,true,(q:Int),p0)/\k<q/\q<=l.length/\x.sz+4*k<=4*q/\G V 18 x)∨(∃(e:q9) (q:Nat) (z:Nod) (pl:Int),a=.pan (e,(q:Int))/\b =(z,false,(q:Int),pl)/\k<=q/\q<=l.length/\e.fault.code≠0)) (fun x=>some (.ok x)) (fun e=>some (.pan e)) some (fun{x q} g1 g2 g3 g4=>⟨_,_,rfl,rfl,.inl ⟨x,q,rfl,rfl,g1,g2,g3,g4⟩⟩) fun{e q z pl} g1 g2 g3=>⟨_,_,rfl,rfl,.inr ⟨e,q,z,pl,rfl,rfl,g1,g2,g3⟩⟩
 have e1:a0m n l k (src.length:Int)=some a:=by
  revert e1;cases a0m n l k (src.length:Int)with
  | none=>exact id
  | some r=>cases r<;>exact id
 have e2:a0o n l (src.length:Int) k p0=some b:=by
  revert e2;cases a0o n l (src.length:Int) k p0<;>exact id
 rcases hq with⟨x,q,rfl,rfl,g1,g2,g3,g4⟩ |⟨e,q,z,pl,rfl,rfl,g1,g2,g3⟩
 ·have hx:=x.H8;obtain⟨⟨r1,r2⟩,hs⟩:=siz_v x.sz n x (Nat.le_refl _) zOm zOm;have hs':a5g n x=some (r1,r2):=(c6y n x).trans hs;simp only[NF,e1,e2,hs,hs',a5t hk,ap,ap',Int.add_comm 1 r2,show eqB (0:Int) 0=true from a5O rfl,Bool.and_self];cases ltB 40 (w64 (r2+1))
  ·cases ltB 4000 (w64 (t+r1))
   ·refine .inr ⟨x,q,w64 (t+r1),?_,?_,g1,g2,g3,g4⟩
    ·simp only[NF];rw[b7Y zOm zSi zOm];rfl
    simp only[NF];rw[b7Y zOm zSi zOm];rfl
   exact .inl ⟨_,_,q,q,_,rfl,rfl,g1,g2,g1,g2⟩
  exact .inl ⟨_,_,q,q,_,rfl,rfl,g1,g2,g1,g2⟩
 obtain⟨j,j1,j2,j3⟩:=c8Q C (size:=(src.length:Int)) (n:=n) zOm hk g1 g2;obtain⟨i,i1,i2,i3⟩:=rec_ok C (n:=n) zOm hk g1 g2;simp only[NF,e1,e2,a5N g3,Bool.false_and,ap,ap',j1,i1,c6t hl g2];cases leB 0 pl
 ·exact .inl ⟨_,_,j,i,_,rfl,rfl,j2,j3,i2,i3⟩
 exact .inl ⟨_,_,j,i,_,rfl,rfl,j2,j3,i2,i3⟩
theorem lp_end (h:l.length<=k∨20<=fs.length):U1 n src l (m+1) t fs ds k=some (fs,ds):=by
 rw[U1.eq_2];rcases Nat.lt_or_ge k l.length with h1|h1
 ·rw[a04 (show(k:Int)<l.length by omega),a2e (show ¬(fs.length:Int)<20 by omega)];rfl
 rw[a2e (show ¬(k:Int)<l.length by omega)];rfl
theorem c7v {p0:Int}(h:l.length<=k∨20<=fs.length):X3 n l src (m+1) t fs k p0 ds=some (fs,ds):=by
 rw[X3.eq_2];rcases Nat.lt_or_ge k l.length with h1|h1
 ·rw[a04 (show(k:Int)<l.length by omega),a2e (show ¬(fs.length:Int)<20 by omega)];rfl
 rw[a2e (show ¬(k:Int)<l.length by omega)];rfl
theorem mod_p {n:Nat}{src:Str}(hn:400000<=n):∀(m k:Nat) (t:Int) (fs:List Flt) (ds:List Nod),l.length<m+k->szN ds<=4*k->k<=l.length->fs ≠ [] -> ∃gs es,U1 n src l m t fs ds k=some (gs,es)/\gs ≠ []
 | 0,k,t,fs,ds,h1,h2,h3,h4=>zOm
 | m+1,k,t,fs,ds,h1,h2,h3,h4=>by
  have hl:=C.hl;have hd:=I8 ds;by_cases h:l.length<=k∨20<=fs.length
  ·exact⟨_,_,lp_end C h,h4⟩
  rcases c9i C (m:=m) (m':=0) (src:=src) (p0:=0) (t:=t) (fs':=[]) (ds:=ds) (ds':=[]) hn (show k<l.length by omega) (show fs.length<20 by omega) zSi zOm zSi with⟨f,f',j,j',p1,e1,-,g1,g2,-⟩ |⟨x,q,u,e1,-,g1,g2,g3,-⟩
  ·rw[e1];exact mod_p hn m j t _ ds zOm zOm g2 zSi
  rw[e1];exact mod_p hn m q u fs _ zOm (by simp only[SZ];omega) g2 h4
theorem mod_r {n:Nat}{src:Str}(hn:400000<=n):∀(m k:Nat) (t p0:Int) (fs:List Flt) (ds:List Nod),l.length<m+k->szN ds<=4*k->k<=l.length->fs ≠ [] -> ∃gs es,X3 n l src m t fs k p0 ds=some (gs,es)/\gs ≠ []
 | 0,k,t,p0,fs,ds,h1,h2,h3,h4=>zOm
 | m+1,k,t,p0,fs,ds,h1,h2,h3,h4=>by
  have hl:=C.hl;have hd:=I8 ds;by_cases h:l.length<=k∨20<=fs.length
  ·exact⟨_,_,c7v C h,h4⟩
  rcases c9i C (m:=0) (m':=m) (src:=src) (p0:=p0) (t:=t) (fs:=[]) (fs':=fs) (ds:=[]) (ds':=ds) hn (show k<l.length by omega) zSi (show fs.length<20 by omega) zSi zOm with⟨f,f',j,j',p1,-,e2,-,-,g1,g2⟩ |⟨x,q,u,-,e2,g1,g2,g3,-⟩
  ·rw[e2];exact mod_r hn m j' t p1 _ ds zOm zOm g2 zSi
  rw[e2];exact mod_r hn m q u p0 fs _ zOm (by simp only[SZ];omega) g2 h4
theorem mod_b {n:Nat}{src:Str}(hn:400000<=n):∀(m k:Nat) (t p0:Int) (ds:List Nod),l.length<m+k->szN ds<=4*k->k<=l.length ->(∀x∈ds,G V 18 x) -> ∃gs es gs' es',U1 n src l m t [] ds k=some (gs,es)/\X3 n l src m t [] k p0 ds=some (gs',es')/\((gs=[]/\gs'=[]/\es'=es/\szN es<=12000 /\ ∀x∈es,G V 18 x)∨(gs ≠ []/\gs' ≠ []))
 | 0,k,t,p0,ds,h1,h2,h3,h4=>zOm
 | m+1,k,t,p0,ds,h1,h2,h3,h4=>by
  have hl:=C.hl;have hd:=I8 ds;by_cases h:l.length<=k
  ·exact⟨_,_,_,_,lp_end C (.inl h),c7v C (.inl h),.inl ⟨rfl,rfl,rfl,zOm,h4⟩⟩
  rcases c9i C (m:=m) (m':=m) (src:=src) (p0:=p0) (t:=t) (fs:=[]) (fs':=[]) (ds:=ds) (ds':=ds) hn (show k<l.length by omega) zSi zSi zOm zOm with⟨f,f',j,j',p1,e1,e2,g1,g2,g3,g4⟩ |⟨x,q,u,e1,e2,g1,g2,g3,g4⟩
  ·obtain⟨gs,es,a1,a2⟩:=mod_p C (src:=src) hn m j t ([]++[f]) ds zOm zOm g2 zSi;obtain⟨gs',es',b1,b2⟩:=mod_r C (src:=src) hn m j' t p1 ([]++[f']) ds zOm zOm g4 zSi;exact⟨_,_,_,_,e1.trans a1,e2.trans b1,.inr ⟨a2,b2⟩⟩
  rw[e1,e2];exact mod_b hn m q u p0 _ zOm (by simp only[SZ];omega) g2 (a8h h4 (a5I g4))
end
theorem tok_dig {s:Str}:∀t∈b4i (Sc.a6T s),t.kind=3->b4K t.text=true:=by
 intro t ht hk;cases h:Sc.a6T s with
 | done l =>
  rw[h]at ht;obtain⟨u,hu,rfl⟩:=List.mem_map.1 ht;exact Sc.int_digB (Sc.tok_int h u hu hk)
 | go x=>rw[h]at ht;cases ht
 | err c a=>rw[h]at ht;cases ht
def V0 (kd:Int)(s:Str):Prop:=kd=3->b4K s=true
theorem cx0 (s:Str):Cx V0 (b4i (Sc.a6T s)) where
 hl:=tokL_len s
 tk {k kd} h h3:=by
  subst h3;have h1:=a8N h;unfold isK at h;rw[Bool.and_eq_true,a5M]at h;refine tok_dig (s:=s) _ ?_ (of_decide_eq_true h.2);unfold a4z;rw[List.getElem?_eq_getElem h1];exact List.getElem_mem h1
 lit _ h4:=by cases h4
 int h:=h rfl
theorem b8I (hn:400000<=n)(s:Str):∃x fs x' fs',a2m n s=some (x,fs)/\a8v n s=some (x',fs')/\((fs=[]/\fs'=[] /\ ∃es,x =⟨1,[],0,zT,[],es,0⟩/\x'=x/\szN es<=12000 /\ ∀y∈es,G V0 18 y)∨(fs ≠ []/\fs' ≠ [])):=by
 have C:=cx0 s;have hl:=C.hl;unfold a2m a8v a7R b5R b2q;rcases c4K s with⟨h1,h2⟩ |⟨h1,_⟩
 ·obtain⟨gs,es,gs',es',e1,e2,h⟩:=mod_b C (n:=n) (src:=s) hn n 0 1 (-1) [] zOm (by simp[szN]) (Nat.zero_le _) all_nil;have e1:U1 n s (b4i (Sc.a6T s)) n 1 [] [] 0=some (gs,es):=e1;have e2:X3 n (b4i (Sc.a6T s)) s n 1 [] 0 (-1) []=some (gs',es'):=e2;simp only[NF,h1,h2,show eqB (0:Int) 0=true from a5O rfl,Bool.and_self,e1,e2];rcases h with⟨rfl,rfl,rfl,h5,h6⟩|h
  ·exact⟨_,_,_,_,rfl,rfl,.inl ⟨rfl,rfl,_,rfl,rfl,h5,h6⟩⟩
  exact⟨_,_,_,_,rfl,rfl,.inr h⟩
 simp only[NF,a5N h1,Bool.false_and];exact⟨_,_,_,_,rfl,rfl,.inr ⟨zSi,zSi⟩⟩
end Go.Proofs.YtimgnjbjbdgmaaaGreatDoor


namespace Go.Proofs.YtimgnjbjbdgmaaaGreatDoor.Pr
open Go Go.Vm
def c3v (elems1:List Str)(sep2:Str):Option Str:=match leN elems1.length 140737488355328&&leN (Lib.join elems1 sep2).length 140737488355328 with
 | true=>some (Lib.join elems1 sep2)
 | false=>none
def b5q (i1:Int):Option Str:=match rngB i1 with
 | true=>some (Lib.itoa i1)
 | false=>none
def escR (s1:Str):Option Str:=match leN s1.length 1000000 with
 | true=>some (Rp.esc s1)
 | false=>none
def b6i (s1:Str):Option Str:=match leN s1.length 1000000 with
 | true=>some (Rp.esc s1)
 | false=>none
def o8 (l1 words2:List Str):Option (List Str) :=(app 16 words2 l1).bind fun l3 =>some l3
def a0X:List Str->Out|y0=>.ret (.tuple []) (hW clS y0)
def b0A (n:Nat)(ops2:List Int)(x3:Nod):Nat ->(List Nod)->Int->Int->Option (List Nod×Int)|0,_,_,_=>none|m6+1,b3b,x507,x508 =>cond (ltB x508 ops2.length) (((idx' ops2 x508).bind fun x4 =>cond (eqB x3.op x4) ((app 144 b3b ([x3]:List Nod)).bind fun l5 =>some l5) (some b3b)).bind fun a8D =>b0A n ops2 x3 m6 a8D x507 (w64 (x508+1))) (some (b3b,x507))
def a9k (n:Nat)(n1:Nod)(ops2:List Int):Nat ->(List Nod)->Int->Option (List Nod)|0,_,_=>none|m3+1,l515,x516 =>cond (ltB x516 n1.l.length) (((idx' n1.l x516).bind fun x3 =>b0A n ops2 x3 n l515 x516 0).bind fun(l513,x514) =>a9k n n1 ops2 m3 l513 (w64 (x514+1))) (some l515)
def a0C (n:Nat)(n1:Nod)(ops2:List Int):Option (List Nod) :=(a9k n n1 ops2 n ([]:List Nod) 0).bind fun l525 =>some l525
def a5D:List Nod->Out|y0=>.ret (.sl D9 y0) []
def X7 (n:Nat)(n1:Nod):Nat->Int ->(List Str)->Option (List Str)|0,_,_=>none|m2+1,a4n,Q9 =>cond (ltB a4n n1.l.length) ((idx' n1.l a4n).bind fun x3 =>(cond (eqB a4n 0) ((o8 ([[58]]:List Str) Q9).bind fun words4 =>some words4) ((o8 ([[38]]:List Str) Q9).bind fun words5 =>some words5)).bind fun a2j =>(o8 ([x3.s]:List Str) a2j).bind fun words6 =>X7 n n1 m2 (w64 (a4n+1)) words6) (some Q9)
def a0z (n:Nat)(n1:Nod)(words2:List Str):Option (List Str) :=X7 n n1 n 0 words2
def a0n (n:Nat)(g1:Nod)(words2:List Str):Option (List Str) :=(o8 ([g1.s]:List Str) words2).bind fun words3 =>(a0z n g1 words3).bind fun words4 =>some words4
def b60:List Str->Out|y0=>.ret (.tuple []) [(0,.row [.ptr 1 0]),(1,.row [.st 2 clS y0]),(2,.tip (tpe 1 (List.length y0)) (List.length y0))]
def a0Q (n:Nat)(l1:List Nod):Nat->Int ->(List Str)->Option (List Str)|0,_,_=>none|m1+1,a4n,Q9 =>cond (ltB a4n l1.length) ((idx' l1 a4n).bind fun x3 =>(cond (ltB 0 a4n) ((o8 ([[44]]:List Str) Q9).bind fun words4 =>some words4) (some Q9)).bind fun a2j =>(a0n n x3 a2j).bind fun words5 =>a0Q n l1 m1 (w64 (a4n+1)) words5) (some Q9)
def a6J (n:Nat)(l1:List Nod)(words2:List Str):Option (List Str) :=a0Q n l1 n 0 words2
def c3f:List Str->Out|y0=>.ret (.tuple []) [(0,.row [.st 2 clS y0]),(1,.row [.ptr 0 0]),(2,.tip (tpe 1 (List.length y0)) (List.length y0))]
def a0u (n:Nat)(n1:Nod)(words2:List Str):Option (List Str) :=(a0C n n1 ([8]:List Int)).bind fun r3 =>cond (eqB r3.length 0) (some words2) ((o8 ([[60]]:List Str) words2).bind fun words4 =>(a6J n r3 words4).bind fun words5 =>(o8 ([[62]]:List Str) words5).bind fun words6 =>some words6)
def O8 (n1:Nod)(i2:Int):Option Nod :=cond (ltB i2 n1.l.length) ((idx' n1.l i2).bind fun x3 =>some x3) (some (⟨0,[],0,⟨0,[],0,[]⟩,[],[],0⟩:Nod))
def encF4:Nod->Out|y0=>.ret (.agg (c0 y0.op y0.s y0.n y0.t.kind y0.t.name y0.t.n (.sl H7 y0.t.args) (.sl H7 y0.ts) (.sl D9 y0.l) y0.at_)) []
def a06 (n1:Int)(words2:List Str):Option (List Str) :=(b5q n1).bind fun rr3 =>(cond (ltB n1 0) ((o8 ([[45]]:List Str) words2).bind fun words4 =>(b9A rr3 1 (List.length rr3:Int)).bind fun s5 =>some (s5,words4)) (some (rr3,words2))).bind fun(s502,Q9) =>(o8 ([s502]:List Str) Q9).bind fun words6 =>some words6
def a1x (n1:Int)(words2:List Str):Option (List Str) :=cond (eqB n1 1) ((o8 ([[116,114,117,101]]:List Str) words2).bind fun words3 =>some words3) ((o8 ([[102,97,108,115,101]]:List Str) words2).bind fun words4 =>some words4)
structure w9 where
 J7:Typ ->(List Str)->Option (List Str)
 a0G:(List Typ) ->(List Str)->Option (List Str)
 Q7:(List Typ) ->(List Str)->Option (List Str)
def a2v (n:Nat)(Φ:w9)(t1:Typ)(words2:List Str):Option (List Str) :=cond (eqB t1.kind 1) ((o8 ([[73,110,116]]:List Str) words2).bind fun words3 =>some words3) (cond (eqB t1.kind 2) ((o8 ([[66,111,111,108]]:List Str) words2).bind fun words4 =>some words4) (cond (eqB t1.kind 3) ((o8 ([[84,101,120,116]]:List Str) words2).bind fun words5 =>some words5) (cond (eqB t1.kind 4) ((o8 ([[85,110,105,116]]:List Str) words2).bind fun words6 =>some words6) (cond (eqB t1.kind 5) ((o8 ([[65,114,114,97,121]]:List Str) words2).bind fun words7 =>(Φ.a0G t1.args words7).bind fun words8 =>some words8) (cond (eqB t1.kind 11) ((o8 ([[87,101,97,107]]:List Str) words2).bind fun words9 =>(Φ.a0G t1.args words9).bind fun words10 =>some words10) (cond (eqB t1.kind 9) ((o8 ([[97,110,121],t1.name]:List Str) words2).bind fun words11 =>some words11) (cond (eqB t1.kind 8) ((Φ.Q7 t1.args words2).bind fun words12 =>(o8 ([[46],t1.name]:List Str) words12).bind fun words13 =>some words13) (cond (eqB t1.kind 10) ((o8 ([[40]]:List Str) words2).bind fun words14 =>(a9p t1.args 0 (max (w64 ((List.length t1.args:Int)-1)) 0)).bind fun l15 =>(Φ.Q7 l15 words14).bind fun words16 =>(o8 ([[41],[45,62]]:List Str) words16).bind fun words17 =>(a9p t1.args (max (w64 ((List.length t1.args:Int)-1)) 0) (List.length t1.args:Int)).bind fun l18 =>(Φ.Q7 l18 words17).bind fun words19 =>some words19) ((o8 ([t1.name]:List Str) words2).bind fun words20 =>(Φ.a0G t1.args words20).bind fun words21 =>some words21)))))))))
def a1V (n:Nat)(Φ:w9)(l1:List Typ)(words2:List Str):Option (List Str) :=cond (ltB 0 l1.length) ((o8 ([[60]]:List Str) words2).bind fun words3 =>(Φ.Q7 l1 words3).bind fun words4 =>(o8 ([[62]]:List Str) words4).bind fun words5 =>some words5) (some words2)
def J2 (n:Nat)(Φ:w9)(l1:List Typ):Nat->Int ->(List Str)->Option (List Str)|0,_,_=>none|m1+1,a4n,Q9 =>cond (ltB a4n l1.length) ((idx' l1 a4n).bind fun x3 =>(cond (ltB 0 a4n) ((o8 ([[44]]:List Str) Q9).bind fun words4 =>some words4) (some Q9)).bind fun a2j =>(Φ.J7 x3 a2j).bind fun words5 =>J2 n Φ l1 m1 (w64 (a4n+1)) words5) (some Q9)
def V8 (n:Nat)(Φ:w9)(l1:List Typ)(words2:List Str):Option (List Str) :=J2 n Φ l1 n 0 words2
def w9.fs:Nat->w9|0=>⟨fun _ _=>none,fun _ _=>none,fun _ _=>none⟩|n+1=>⟨a2v n (w9.fs n),a1V n (w9.fs n),V8 n (w9.fs n)⟩
abbrev J7 (n:Nat)(t1:Typ)(words2:List Str):Option (List Str):=(w9.fs n).J7 t1 words2
abbrev a0G (n:Nat)(l1:List Typ)(words2:List Str):Option (List Str):=(w9.fs n).a0G l1 words2
abbrev Q7 (n:Nat)(l1:List Typ)(words2:List Str):Option (List Str):=(w9.fs n).Q7 l1 words2
def a0V (n:Nat)(p1:Nod)(words2:List Str):Option (List Str) :=(cond (eqB p1.n 1) ((o8 ([[105,110,111,117,116]]:List Str) words2).bind fun words3 =>some words3) (cond (eqB p1.n 2) ((o8 ([[99,111,110,115,117,109,101]]:List Str) words2).bind fun words4 =>some words4) (some words2))).bind fun b6b =>(o8 ([p1.s,[58]]:List Str) b6b).bind fun words5 =>(J7 n p1.t words5).bind fun words6 =>some words6
def U4 (n:Nat)(l1:List Nod):Nat->Int ->(List Str)->Option (List Str)|0,_,_=>none|m1+1,a4n,Q9 =>cond (ltB a4n l1.length) ((idx' l1 a4n).bind fun x3 =>(cond (ltB 0 a4n) ((o8 ([[44]]:List Str) Q9).bind fun words4 =>some words4) (some Q9)).bind fun a2j =>(a0V n x3 a2j).bind fun words5 =>U4 n l1 m1 (w64 (a4n+1)) words5) (some Q9)
def a2s (n:Nat)(l1:List Nod)(words2:List Str):Option (List Str) :=U4 n l1 n 0 words2
def a07 (n:Nat)(l1:List Nod)(words2:List Str):Option (List Str) :=(o8 ([[40]]:List Str) words2).bind fun words3 =>(a2s n l1 words3).bind fun words4 =>(o8 ([[41]]:List Str) words4).bind fun words5 =>some words5
def a08 (n:Nat)(t1:Typ)(words2:List Str):Option (List Str) :=cond (!eqB t1.kind 4) ((o8 ([[45,62]]:List Str) words2).bind fun words3 =>(J7 n t1 words3).bind fun words4 =>some words4) (some words2)
def a6e (n1:Nod)(i2:Int):Option (List Nod) :=cond (ltB i2 n1.l.length) ((a9p n1.l i2 (List.length n1.l:Int)).bind fun l3 =>some l3) (some ([]:List Nod))
structure C8 where
 V6:Nod ->(List Str)->Option (List Str)
 a1q:(List Nod) ->(List Str)->Option (List Str)
def X8 (n:Nat)(Φ:C8)(n1:Nod)(words2:List Str):Option (List Str) :=cond (eqB n1.op 40) ((o8 ([[95]]:List Str) words2).bind fun words3 =>some words3) (cond (eqB n1.op 41) ((o8 ([n1.s]:List Str) words2).bind fun words4 =>some words4) (cond (eqB n1.op 42) ((a06 n1.n words2).bind fun words5 =>some words5) (cond (eqB n1.op 43) ((a1x n1.n words2).bind fun words6 =>some words6) (cond (eqB n1.op 44) ((b6i n1.s).bind fun rr7 =>(cat [34] rr7).bind fun s8 =>(cat s8 [34]).bind fun s9 =>(o8 ([s9]:List Str) words2).bind fun words10 =>some words10) (cond (eqB n1.op 45) ((o8 ([[46],n1.s]:List Str) words2).bind fun words11 =>cond (ltB 0 n1.l.length) ((o8 ([[40]]:List Str) words11).bind fun words12 =>(Φ.a1q n1.l words12).bind fun words13 =>(o8 ([[41]]:List Str) words13).bind fun words14 =>some words14) (some words11)) (some words2))))))
def Z5 (n:Nat)(Φ:C8)(l1:List Nod):Nat->Int ->(List Str)->Option (List Str)|0,_,_=>none|m1+1,a4n,Q9 =>cond (ltB a4n l1.length) ((idx' l1 a4n).bind fun x3 =>(cond (ltB 0 a4n) ((o8 ([[44]]:List Str) Q9).bind fun words4 =>some words4) (some Q9)).bind fun a2j =>(Φ.V6 x3 a2j).bind fun words5 =>Z5 n Φ l1 m1 (w64 (a4n+1)) words5) (some Q9)
def a1r (n:Nat)(Φ:C8)(l1:List Nod)(words2:List Str):Option (List Str) :=Z5 n Φ l1 n 0 words2
def C8.fs:Nat->C8|0=>⟨fun _ _=>none,fun _ _=>none⟩|n+1=>⟨X8 n (C8.fs n),a1r n (C8.fs n)⟩
abbrev V6 (n:Nat)(n1:Nod)(words2:List Str):Option (List Str):=(C8.fs n).V6 n1 words2
abbrev a1q (n:Nat)(l1:List Nod)(words2:List Str):Option (List Str):=(C8.fs n).a1q l1 words2
structure j6 where
 K8:Nod ->(List Str)->Option (List Str)
 V4:Nod ->(List Str)->Option (List Str)
 I7:Nod ->(List Str)->Option (List Str)
 a1W:Nod ->(List Str)->Option (List Str)
 a1w:Nod ->(List Str)->Option (List Str)
 a3K:Nod ->(List Str)->Option (List Str)
 a0v:Nod ->(List Str)->Option (List Str)
 a0h:(List Nod) ->(List Str)->Option (List Str)
 a1p:(List Nod) ->(List Str)->Option (List Str)
def O4 (n:Nat)(Φ:j6)(n1:Nod):Nat->Int ->(List Str)->Option (List Str)|0,_,_=>none|m3+1,a4n,Q9 =>cond (ltB a4n n1.l.length) ((idx' n1.l a4n).bind fun x4 =>(Φ.V4 x4 Q9).bind fun words5 =>O4 n Φ n1 m3 (w64 (a4n+1)) words5) (some Q9)
def a0g (n:Nat)(Φ:j6)(n1:Nod)(words2:List Str):Option (List Str) :=(o8 ([[123]]:List Str) words2).bind fun words3 =>(O4 n Φ n1 n 0 words3).bind fun words509 =>(o8 ([[125]]:List Str) words509).bind fun words6 =>some words6
def N9 (n:Nat)(Φ:j6)(r41:List Nod):Nat->Int ->(List Str)->Option (List Str)|0,_,_=>none|m40+1,x514,b3E =>cond (ltB x514 r41.length) ((idx' r41 x514).bind fun x42 =>(o8 ([[99,97,115,101]]:List Str) b3E).bind fun words43 =>(O8 x42 0).bind fun r44 =>(V6 n r44 words43).bind fun words45 =>(O8 x42 1).bind fun r46 =>(Φ.K8 r46 words45).bind fun words47 =>N9 n Φ r41 m40 (w64 (x514+1)) words47) (some b3E)
def Y1 (n:Nat)(Φ:j6)(n1:Nod)(words2:List Str):Option (List Str) :=cond (eqB n1.op 21) ((cond (eqB n1.n 1) ((o8 ([[118,97,114]]:List Str) words2).bind fun words3 =>some words3) ((o8 ([[108,101,116]]:List Str) words2).bind fun words4 =>some words4)).bind fun b9E =>(o8 ([n1.s]:List Str) b9E).bind fun words5 =>(cond (!eqB n1.t.kind 0) ((o8 ([[58]]:List Str) words5).bind fun words6 =>(J7 n n1.t words6).bind fun words7 =>some words7) (some words5)).bind fun b6b =>(cond (ltB 0 n1.l.length) ((o8 ([[61]]:List Str) b6b).bind fun words8 =>(idx' n1.l 0).bind fun x9 =>(Φ.I7 x9 words8).bind fun words10 =>some words10) (some b6b)).bind fun words505 =>(o8 ([[59]]:List Str) words505).bind fun words11 =>some words11) (cond (eqB n1.op 22) ((O8 n1 0).bind fun r12 =>(Φ.I7 r12 words2).bind fun words13 =>(o8 ([[61]]:List Str) words13).bind fun words14 =>(O8 n1 1).bind fun r15 =>(Φ.I7 r15 words14).bind fun words16 =>(o8 ([[59]]:List Str) words16).bind fun words17 =>some words17) (cond (eqB n1.op 23) ((O8 n1 0).bind fun r18 =>(Φ.I7 r18 words2).bind fun words19 =>(o8 ([[59]]:List Str) words19).bind fun words20 =>some words20) (cond (eqB n1.op 24) ((o8 ([[105,102]]:List Str) words2).bind fun words21 =>(O8 n1 0).bind fun r22 =>(Φ.I7 r22 words21).bind fun words23 =>(O8 n1 1).bind fun r24 =>(Φ.K8 r24 words23).bind fun words25 =>cond (ltB 2 n1.l.length) ((o8 ([[101,108,115,101]]:List Str) words25).bind fun words26 =>(idx' n1.l 2).bind fun x27 =>cond (eqB x27.op 24) ((idx' n1.l 2).bind fun x28 =>(Φ.V4 x28 words26).bind fun words29 =>some words29) ((idx' n1.l 2).bind fun x30 =>(Φ.K8 x30 words26).bind fun words31 =>some words31)) (some words25)) (cond (eqB n1.op 25) ((o8 ([[119,104,105,108,101]]:List Str) words2).bind fun words32 =>(O8 n1 0).bind fun r33 =>(Φ.I7 r33 words32).bind fun words34 =>(O8 n1 1).bind fun r35 =>(Φ.K8 r35 words34).bind fun words36 =>some words36) (cond (eqB n1.op 26) ((o8 ([[109,97,116,99,104]]:List Str) words2).bind fun words37 =>(O8 n1 0).bind fun r38 =>(Φ.I7 r38 words37).bind fun words39 =>(o8 ([[123]]:List Str) words39).bind fun words40 =>((a6e n1 1).bind fun r41 =>N9 n Φ r41 n 0 words40).bind fun words525 =>(o8 ([[125]]:List Str) words525).bind fun words48 =>some words48) (cond (eqB n1.op 28) ((o8 ([[114,101,116,117,114,110]]:List Str) words2).bind fun words49 =>(cond (ltB 0 n1.l.length) ((idx' n1.l 0).bind fun x50 =>(Φ.I7 x50 words49).bind fun words51 =>some words51) (some words49)).bind fun words516 =>(o8 ([[59]]:List Str) words516).bind fun words52 =>some words52) (cond (eqB n1.op 29) ((o8 ([[116,104,114,111,119]]:List Str) words2).bind fun words53 =>(O8 n1 0).bind fun r54 =>(Φ.I7 r54 words53).bind fun words55 =>(o8 ([[59]]:List Str) words55).bind fun words56 =>some words56) (cond (eqB n1.op 30) ((o8 ([[100,111]]:List Str) words2).bind fun words57 =>(O8 n1 0).bind fun r58 =>(Φ.K8 r58 words57).bind fun words59 =>(o8 ([[99,97,116,99,104],n1.s]:List Str) words59).bind fun words60 =>(O8 n1 1).bind fun r61 =>(Φ.K8 r61 words60).bind fun words62 =>some words62) (cond (eqB n1.op 31) ((o8 ([[100,101,102,101,114]]:List Str) words2).bind fun words63 =>(O8 n1 0).bind fun r64 =>(Φ.K8 r64 words63).bind fun words65 =>some words65) (some words2))))))))))
def a0b (n:Nat)(Φ:j6)(n1:Nod)(words2:List Str):Option (List Str) :=cond (eqB n1.op 50) ((a06 n1.n words2).bind fun words3 =>some words3) (cond (eqB n1.op 51) ((a1x n1.n words2).bind fun words4 =>some words4) (cond (eqB n1.op 52) ((b6i n1.s).bind fun rr5 =>(cat [34] rr5).bind fun s6 =>(cat s6 [34]).bind fun s7 =>(o8 ([s7]:List Str) words2).bind fun words8 =>some words8) (cond (eqB n1.op 53) ((Φ.a1W n1 words2).bind fun words9 =>some words9) (cond (eqB n1.op 54) ((o8 ([n1.s]:List Str) words2).bind fun words10 =>some words10) (cond (eqB n1.op 61) ((o8 ([[99,111,110,115,117,109,101],n1.s]:List Str) words2).bind fun words11 =>some words11) (cond (eqB n1.op 62) ((o8 ([[38]]:List Str) words2).bind fun words12 =>(O8 n1 0).bind fun r13 =>(Φ.I7 r13 words12).bind fun words14 =>some words14) (cond (eqB n1.op 63) ((Φ.a1w n1 words2).bind fun words15 =>some words15) (cond (eqB n1.op 64) ((o8 ([[40]]:List Str) words2).bind fun words16 =>(O8 n1 0).bind fun r17 =>(Φ.I7 r17 words16).bind fun words18 =>(o8 ([n1.s]:List Str) words18).bind fun words19 =>(O8 n1 1).bind fun r20 =>(Φ.I7 r20 words19).bind fun words21 =>(o8 ([[41]]:List Str) words21).bind fun words22 =>some words22) (cond (eqB n1.op 65) ((o8 ([[33]]:List Str) words2).bind fun words23 =>(O8 n1 0).bind fun r24 =>(Φ.I7 r24 words23).bind fun words25 =>some words25) (cond (eqB n1.op 66) ((o8 ([[45]]:List Str) words2).bind fun words26 =>(O8 n1 0).bind fun r27 =>(Φ.I7 r27 words26).bind fun words28 =>some words28) (cond (eqB n1.op 67) ((o8 ([[91]]:List Str) words2).bind fun words29 =>(Φ.a1p n1.l words29).bind fun words30 =>(o8 ([[93]]:List Str) words30).bind fun words31 =>some words31) ((Φ.a3K n1 words2).bind fun words32 =>some words32))))))))))))
def V3 (n:Nat)(Φ:j6)(n1:Nod):Nat->Int ->(List Str)->Option (List Str)|0,_,_=>none|m2+1,a4n,Q9 =>cond (ltB a4n n1.l.length) (((idx' n1.l a4n).bind fun x3 =>gdO (!eqB 2 0) <| cond (eqB (Int.tmod a4n 2) 1) ((Φ.I7 x3 Q9).bind fun words4 =>some words4) (cond (eqB a4n 0) ((b6i x3.s).bind fun rr5 =>(cat [34] rr5).bind fun s6 =>(cat s6 [92,40]).bind fun s7 =>(o8 ([s7]:List Str) Q9).bind fun words8 =>some words8) (cond (eqB a4n (w64 ((List.length n1.l:Int)-1))) ((b6i x3.s).bind fun rr9 =>(cat [41] rr9).bind fun s10 =>(cat s10 [34]).bind fun s11 =>(o8 ([s11]:List Str) Q9).bind fun words12 =>some words12) ((b6i x3.s).bind fun rr13 =>(cat [41] rr13).bind fun s14 =>(cat s14 [92,40]).bind fun s15 =>(o8 ([s15]:List Str) Q9).bind fun words16 =>some words16)))).bind fun a2j =>V3 n Φ n1 m2 (w64 (a4n+1)) a2j) (some Q9)
def a2a (n:Nat)(Φ:j6)(n1:Nod)(words2:List Str):Option (List Str) :=V3 n Φ n1 n 0 words2
def a4q (n:Nat)(Φ:j6)(x9:Nod):Nat->Int->Int ->(List Str)->Option (Int×List Str)|0,_,_,_=>none|m9+1,x506,x507,c4P =>cond (ltB x507 x9.l.length) ((idx' x9.l x507).bind fun x10 =>(Φ.V4 x10 c4P).bind fun words11 =>a4q n Φ x9 m9 x506 (w64 (x507+1)) words11) (some (x506,c4P))
def a1k (n:Nat)(Φ:j6)(r8:List Nod):Nat->Int ->(List Str)->Option (List Str)|0,_,_=>none|m6+1,x514,b3E =>cond (ltB x514 r8.length) (((idx' r8 x514).bind fun x9 =>a4q n Φ x9 n x514 0 b3E).bind fun(x512,words513) =>a1k n Φ r8 m6 (w64 (x512+1)) words513) (some b3E)
def a0U (n:Nat)(Φ:j6)(n1:Nod)(words2:List Str):Option (List Str) :=(o8 ([[123]]:List Str) words2).bind fun words3 =>(a0C n n1 ([10]:List Int)).bind fun r4 =>(a07 n r4 words3).bind fun words5 =>(a08 n n1.t words5).bind fun words6 =>(o8 ([[105,110]]:List Str) words6).bind fun words7 =>((a0C n n1 ([20]:List Int)).bind fun r8 =>a1k n Φ r8 n 0 words7).bind fun b9F =>(o8 ([[125]]:List Str) b9F).bind fun words12 =>some words12
def a2w (n:Nat)(Φ:j6)(n1:Nod)(words2:List Str):Option (List Str) :=cond (eqB n1.op 55) ((O8 n1 0).bind fun r3 =>(Φ.a0v r3 words2).bind fun words4 =>(o8 ([[46],n1.s]:List Str) words4).bind fun words5 =>some words5) (cond (eqB n1.op 56) ((o8 ([n1.s]:List Str) words2).bind fun words6 =>(Φ.a0h n1.l words6).bind fun words7 =>some words7) (cond (eqB n1.op 57) ((O8 n1 0).bind fun r8 =>(Φ.a0v r8 words2).bind fun words9 =>(o8 ([[46],n1.s]:List Str) words9).bind fun words10 =>(a6e n1 1).bind fun r11 =>(Φ.a0h r11 words10).bind fun words12 =>some words12) (cond (eqB n1.op 58) ((J7 n n1.t words2).bind fun words13 =>(o8 ([[46],n1.s]:List Str) words13).bind fun words14 =>cond (eqB n1.n 1) ((Φ.a0h n1.l words14).bind fun words15 =>some words15) (some words14)) (cond (eqB n1.op 59) ((J7 n n1.t words2).bind fun words16 =>(Φ.a0h n1.l words16).bind fun words17 =>some words17) (cond (eqB n1.op 60) ((o8 ([[40]]:List Str) words2).bind fun words18 =>(O8 n1 0).bind fun r19 =>(Φ.I7 r19 words18).bind fun words20 =>(o8 ([[41]]:List Str) words20).bind fun words21 =>(a6e n1 1).bind fun r22 =>(Φ.a0h r22 words21).bind fun words23 =>some words23) (some words2))))))
def a1l (n:Nat)(Φ:j6)(n1:Nod)(words2:List Str):Option (List Str) :=(cond (eqB n1.op 61) (some (eqB n1.op 61)) (cond (eqB n1.op 63) (some (eqB n1.op 63)) (cond (eqB n1.op 66) (some (eqB n1.op 66)) (some (eqB n1.op 65))))).bind fun a4n =>cond a4n ((o8 ([[40]]:List Str) words2).bind fun words3 =>(Φ.I7 n1 words3).bind fun words4 =>(o8 ([[41]]:List Str) words4).bind fun words5 =>some words5) ((Φ.I7 n1 words2).bind fun words6 =>some words6)
def a3j (n:Nat)(Φ:j6)(l1:List Nod)(words2:List Str):Option (List Str) :=(o8 ([[40]]:List Str) words2).bind fun words3 =>(Φ.a1p l1 words3).bind fun words4 =>(o8 ([[41]]:List Str) words4).bind fun words5 =>some words5
def K7 (n:Nat)(Φ:j6)(l1:List Nod):Nat->Int ->(List Str)->Option (List Str)|0,_,_=>none|m1+1,a4n,Q9 =>cond (ltB a4n l1.length) ((idx' l1 a4n).bind fun x3 =>(cond (ltB 0 a4n) ((o8 ([[44]]:List Str) Q9).bind fun words4 =>some words4) (some Q9)).bind fun a2j =>(Φ.I7 x3 a2j).bind fun words5 =>K7 n Φ l1 m1 (w64 (a4n+1)) words5) (some Q9)
def a2A (n:Nat)(Φ:j6)(l1:List Nod)(words2:List Str):Option (List Str) :=K7 n Φ l1 n 0 words2
def j6.fs:Nat->j6|0=>⟨fun _ _=>none,fun _ _=>none,fun _ _=>none,fun _ _=>none,fun _ _=>none,fun _ _=>none,fun _ _=>none,fun _ _=>none,fun _ _=>none⟩|n+1=>⟨a0g n (j6.fs n),Y1 n (j6.fs n),a0b n (j6.fs n),a2a n (j6.fs n),a0U n (j6.fs n),a2w n (j6.fs n),a1l n (j6.fs n),a3j n (j6.fs n),a2A n (j6.fs n)⟩
abbrev K8 (n:Nat)(n1:Nod)(words2:List Str):Option (List Str):=(j6.fs n).K8 n1 words2
abbrev V4 (n:Nat)(n1:Nod)(words2:List Str):Option (List Str):=(j6.fs n).V4 n1 words2
abbrev I7 (n:Nat)(n1:Nod)(words2:List Str):Option (List Str):=(j6.fs n).I7 n1 words2
abbrev a1W (n:Nat)(n1:Nod)(words2:List Str):Option (List Str):=(j6.fs n).a1W n1 words2
abbrev a1w (n:Nat)(n1:Nod)(words2:List Str):Option (List Str):=(j6.fs n).a1w n1 words2
abbrev a3K (n:Nat)(n1:Nod)(words2:List Str):Option (List Str):=(j6.fs n).a3K n1 words2
abbrev a0v (n:Nat)(n1:Nod)(words2:List Str):Option (List Str):=(j6.fs n).a0v n1 words2
abbrev a0h (n:Nat)(l1:List Nod)(words2:List Str):Option (List Str):=(j6.fs n).a0h l1 words2
abbrev a1p (n:Nat)(l1:List Nod)(words2:List Str):Option (List Str):=(j6.fs n).a1p l1 words2
def a1X (n:Nat)(n1:Nod)(words2:List Str):Option (List Str) :=cond (eqB n1.op 13) ((cond (eqB n1.n 1) ((o8 ([[118,97,114]]:List Str) words2).bind fun words3 =>some words3) ((o8 ([[108,101,116]]:List Str) words2).bind fun words4 =>some words4)).bind fun words501 =>(o8 ([n1.s,[58]]:List Str) words501).bind fun words5 =>(J7 n n1.t words5).bind fun words6 =>(o8 ([[59]]:List Str) words6).bind fun words7 =>some words7) (cond (eqB n1.op 14) ((cond (eqB n1.n 1) ((o8 ([[105,110,100,105,114,101,99,116]]:List Str) words2).bind fun words8 =>some words8) (some words2)).bind fun b9E =>(o8 ([[99,97,115,101],n1.s]:List Str) b9E).bind fun words9 =>(cond (ltB 0 n1.ts.length) ((o8 ([[40]]:List Str) words9).bind fun words10 =>(Q7 n n1.ts words10).bind fun words11 =>(o8 ([[41]]:List Str) words11).bind fun words12 =>some words12) (some words9)).bind fun words504 =>(o8 ([[59]]:List Str) words504).bind fun words13 =>some words13) (cond (eqB n1.op 15) ((o8 ([[100,101,105,110,105,116]]:List Str) words2).bind fun words14 =>(O8 n1 0).bind fun r15 =>(K8 n r15 words14).bind fun words16 =>some words16) (some words2)))
def a1a (n:Nat)(r1:Nod)(words2:List Str):Option (List Str) :=(J7 n r1.t words2).bind fun words3 =>cond (eqB r1.n 2) ((o8 ([[61,61]]:List Str) words3).bind fun words4 =>(Q7 n r1.ts words4).bind fun words5 =>some words5) ((o8 ([[58],r1.s]:List Str) words3).bind fun words6 =>some words6)
def Z4 (n:Nat)(l1:List Nod):Nat->Int ->(List Str)->Option (List Str)|0,_,_=>none|m1+1,a4n,Q9 =>cond (ltB a4n l1.length) ((idx' l1 a4n).bind fun x3 =>(cond (ltB 0 a4n) ((o8 ([[44]]:List Str) Q9).bind fun words4 =>some words4) (some Q9)).bind fun a2j =>(a1a n x3 a2j).bind fun words5 =>Z4 n l1 m1 (w64 (a4n+1)) words5) (some Q9)
def a5h (n:Nat)(l1:List Nod)(words2:List Str):Option (List Str) :=Z4 n l1 n 0 words2
def a1y (n:Nat)(n1:Nod)(words2:List Str):Option (List Str) :=(a0C n n1 ([12]:List Int)).bind fun r3 =>cond (eqB r3.length 0) (some words2) ((o8 ([[119,104,101,114,101]]:List Str) words2).bind fun words4 =>(a5h n r3 words4).bind fun words5 =>some words5)
def R5 (n:Nat):Nat ->(List Nod)->Int->Int ->(List Str)->Option (List Str)|0,_,_,_,_=>none|m5+1,b1I,x504,x505,a2j =>cond (ltB x505 x504) ((idx' b1I x505).bind fun x8 =>(o8 ([[116,104,114,111,119,115],[40]]:List Str) a2j).bind fun words9 =>(J7 n x8.t words9).bind fun words10 =>(o8 ([[41]]:List Str) words10).bind fun words11 =>R5 n m5 b1I x504 (w64 (x505+1)) words11) (some a2j)
def a0O (n:Nat)(r14:List Nod):Nat->Int ->(List Str)->Option (List Str)|0,_,_=>none|m15+1,x518,b3F =>cond (ltB x518 r14.length) ((idx' r14 x518).bind fun x15 =>(K8 n x15 b3F).bind fun words16 =>a0O n r14 m15 (w64 (x518+1)) words16) (some b3F)
def P6 (n:Nat)(n1:Nod)(words2:List Str):Option (List Str) :=(o8 ([[102,117,110,99],n1.s]:List Str) words2).bind fun words3 =>(a0u n n1 words3).bind fun words4 =>(a0C n n1 ([10]:List Int)).bind fun r5 =>(a07 n r5 words4).bind fun words6 =>((a0C n n1 ([11]:List Int)).bind fun r7 =>R5 n n r7 (List.length r7:Int) 0 words6).bind fun b3D =>(a08 n n1.t b3D).bind fun words12 =>(a1y n n1 words12).bind fun words13 =>cond (eqB n1.n 1) ((a0C n n1 ([20]:List Int)).bind fun r14 =>a0O n r14 n 0 words13) ((o8 ([[59]]:List Str) words13).bind fun words17 =>some words17)
def O1 (n:Nat):Nat ->(List Nod)->Int->Int ->(List Str)->Option (List Str)|0,_,_,_,_=>none|m13+1,x516,x517,x518,b3F =>cond (ltB x518 x517) ((idx' x516 x518).bind fun x9 =>(a1X n x9 b3F).bind fun words10 =>O1 n m13 x516 x517 (w64 (x518+1)) words10) (some b3F)
def P8 (n:Nat)(n1:Nod):Nat->Int ->(List Str)->Option (List Str)|0,_,_=>none|m21+1,x510,b3D =>cond (ltB x510 n1.l.length) (((idx' n1.l x510).bind fun x13 =>cond (eqB x13.op 16) ((o8 ([[116,121,112,101],x13.s]:List Str) b3D).bind fun words14 =>(a0z n x13 words14).bind fun words15 =>(o8 ([[59]]:List Str) words15).bind fun words16 =>some words16) ((P6 n x13 b3D).bind fun words17 =>some words17)).bind fun words538 =>P8 n n1 m21 (w64 (x510+1)) words538) (some b3D)
def P9 (n:Nat)(r24:List Nod):Nat->Int ->(List Str)->Option (List Str)|0,_,_=>none|m37+1,x556,b9G =>cond (ltB x556 r24.length) (((idx' r24 x556).bind fun x25 =>cond (eqB x25.op 17) ((o8 ([[116,121,112,101],x25.s,[61]]:List Str) b9G).bind fun words26 =>(J7 n x25.t words26).bind fun words27 =>(o8 ([[59]]:List Str) words27).bind fun words28 =>some words28) ((P6 n x25 b9G).bind fun words29 =>some words29)).bind fun words573 =>P9 n r24 m37 (w64 (x556+1)) words573) (some b9G)
def O0 (n:Nat)(n1:Nod)(words2:List Str):Option (List Str) :=(cond (eqB n1.op 2) (some (eqB n1.op 2)) (cond (eqB n1.op 3) (some (eqB n1.op 3)) (some (eqB n1.op 4)))).bind fun b6d =>cond b6d ((cond (!eqB (IntKind.wrap .i64 ((BitVec.ofInt 64 n1.n &&& BitVec.ofInt 64 1).toNat:Nat)) 0) ((o8 ([[109,111,118,101,111,110,108,121]]:List Str) words2).bind fun words3 =>some words3) (some words2)).bind fun a2j =>(cond (!eqB (IntKind.wrap .i64 ((BitVec.ofInt 64 n1.n &&& BitVec.ofInt 64 2).toNat:Nat)) 0) ((o8 ([[102,114,111,122,101,110]]:List Str) a2j).bind fun words4 =>some words4) (some a2j)).bind fun Q9 =>(o8 ([((b6u eqB n1.op (a9t eqB 4 [99,108,97,115,115] (a9t eqB 3 [101,110,117,109] (a9t eqB 2 [115,116,114,117,99,116] [])))).getD []),n1.s]:List Str) Q9).bind fun words5 =>(a0u n n1 words5).bind fun words6 =>(o8 ([[123]]:List Str) words6).bind fun words7 =>((a0C n n1 ([13,14,15]:List Int)).bind fun r8 =>O1 n n r8 (List.length r8:Int) 0 words7).bind fun b9F =>(o8 ([[125]]:List Str) b9F).bind fun words11 =>some words11) (cond (eqB n1.op 5) ((o8 ([[112,114,111,116,111,99,111,108],n1.s,[123]]:List Str) words2).bind fun words12 =>(P8 n n1 n 0 words12).bind fun words541 =>(o8 ([[125]]:List Str) words541).bind fun words18 =>some words18) (cond (eqB n1.op 6) ((o8 ([[101,120,116,101,110,100]]:List Str) words2).bind fun words19 =>(J7 n n1.t words19).bind fun words20 =>(o8 ([[58],n1.s]:List Str) words20).bind fun words21 =>(a1y n n1 words21).bind fun words22 =>(o8 ([[123]]:List Str) words22).bind fun words23 =>((a0C n n1 ([17,7]:List Int)).bind fun r24 =>P9 n r24 n 0 words23).bind fun words576 =>(o8 ([[125]]:List Str) words576).bind fun words30 =>some words30) (cond (eqB n1.op 7) ((P6 n n1 words2).bind fun words31 =>some words31) (some words2))))
def a5U (words1:List Str):Option Str :=(c3v words1 [32]).bind fun rr2 =>some rr2
def encF5 (e0:List Str):Str->Out|y1=>.ret (.str y1) (hW clS e0)
structure J4 where
 Q0:(List Str)->Typ->Option (List Str)
def a3o (n:Nat)(Φ:J4)(t2:Typ):Nat ->(List Str)->Int->Option (List Str)|0,_,_=>none|m15+1,b0N,a5F =>cond (ltB a5F t2.args.length) ((idx' t2.args a5F).bind fun x8 =>(Φ.Q0 b0N x8).bind fun r9 =>a3o n Φ t2 m15 r9 (w64 (a5F+1))) (some b0N)
def a1J (n:Nat)(Φ:J4)(t2:Typ):Nat ->(List Str)->Int->Option (List Str)|0,_,_=>none|m22+1,b6r,b7h =>cond (ltB (w64 (b7h+1)) t2.args.length) ((cond (ltB 0 b7h) ((app 16 b6r ([[44]]:List Str)).bind fun l12 =>some l12) (some b6r)).bind fun l515 =>(idx' t2.args b7h).bind fun x13 =>(Φ.Q0 l515 x13).bind fun r14 =>a1J n Φ t2 m22 r14 (w64 (b7h+1))) (some b6r)
def a2o (n:Nat)(Φ:J4)(t2:Typ):Nat ->(List Str)->Int->Option (List Str)|0,_,_=>none|m38+1,b6s,b6p =>cond (ltB b6p t2.args.length) ((cond (ltB 0 b6p) ((app 16 b6s ([[44]]:List Str)).bind fun l22 =>some l22) (some b6s)).bind fun l547 =>(idx' t2.args b6p).bind fun x23 =>(Φ.Q0 l547 x23).bind fun r24 =>a2o n Φ t2 m38 r24 (w64 (b6p+1))) (some b6s)
def a6f (n:Nat)(Φ:J4)(l1:List Str)(t2:Typ):Option (List Str) :=T9 (α:=List Str) (cond (eqB t2.kind 1) ((app 16 l1 ([[73,110,116]]:List Str)).bind fun l3 =>some (.out (l3))) (cond (eqB t2.kind 2) ((app 16 l1 ([[66,111,111,108]]:List Str)).bind fun l4 =>some (.out (l4))) (cond (eqB t2.kind 3) ((app 16 l1 ([[84,101,120,116]]:List Str)).bind fun l5 =>some (.out (l5))) (cond (eqB t2.kind 4) ((app 16 l1 ([[85,110,105,116]]:List Str)).bind fun l6 =>some (.out (l6))) (cond (eqB t2.kind 9) ((app 16 l1 ([[97,110,121],t2.name]:List Str)).bind fun l7 =>some (.out (l7))) (cond (eqB t2.kind 8) ((a3o n Φ t2 n l1 0).bind fun b7j =>(app 16 b7j ([[46],t2.name]:List Str)).bind fun l10 =>some (.out (l10))) (cond (eqB t2.kind 10) ((app 16 l1 ([[40]]:List Str)).bind fun l11 =>(a1J n Φ t2 n l11 0).bind fun l518 =>(app 16 l518 ([[41],[45,62]]:List Str)).bind fun l15 =>(cond (ltB 0 t2.args.length) ((idx' t2.args (w64 ((List.length t2.args:Int)-1))).bind fun x16 =>(Φ.Q0 l15 x16).bind fun r17 =>some r17) (some l15)).bind fun l519 =>some (.out (l519))) (cond (eqB t2.kind 5) ((app 16 l1 ([[65,114,114,97,121]]:List Str)).bind fun l18 =>some (.brk l18)) (cond (eqB t2.kind 11) ((app 16 l1 ([[87,101,97,107]]:List Str)).bind fun l19 =>some (.brk l19)) ((app 16 l1 ([t2.name]:List Str)).bind fun l20 =>some (.brk l20))))))))))) fun l520 =>(cond (ltB 0 t2.args.length) ((app 16 l520 ([[60]]:List Str)).bind fun l21 =>(a2o n Φ t2 n l21 0).bind fun l550 =>(app 16 l550 ([[62]]:List Str)).bind fun l25 =>some l25) (some l520)).bind fun l534 =>some l534
def a6H:List Str->Out|y0=>.ret (.st 0 clS y0) (hT y0)
def J4.fs:Nat->J4|0=>⟨fun _ _=>none⟩|n+1=>⟨a6f n (J4.fs n)⟩
abbrev Q0 (n:Nat)(l1:List Str)(t2:Typ):Option (List Str):=(J4.fs n).Q0 l1 t2
def b3t (n:Nat)(n1:Nod)(ops2:List Int):Nat ->(List Nod)->Int->Int->Option (List Nod×Int)|0,_,_,_=>none|m6+1,a8l,i508,k509 =>cond (ltB k509 ops2.length) ((idx' n1.l i508).bind fun x3 =>(idx' ops2 k509).bind fun x4 =>cond (eqB x3.op x4) ((idx' n1.l i508).bind fun x5 =>(app 144 a8l ([x5]:List Nod)).bind fun l6 =>some (l6,i508)) (b3t n n1 ops2 m6 a8l i508 (w64 (k509+1)))) (some (a8l,i508))
def b0D (n:Nat)(n1:Nod)(ops2:List Int):Nat ->(List Nod)->Int->Option (List Nod)|0,_,_=>none|m3+1,a8O,a8M =>cond (ltB a8M n1.l.length) ((b3t n n1 ops2 n a8O a8M 0).bind fun(l513,i514) =>b0D n n1 ops2 m3 l513 (w64 (i514+1))) (some a8O)
def a2W (n:Nat)(n1:Nod)(ops2:List Int):Option (List Nod) :=(b0D n n1 ops2 n ([]:List Nod) 0).bind fun l517 =>some l517
def a0J (n:Nat)(r3:List Nod):Nat ->(List Str)->Int->Option (List Str)|0,_,_=>none|m3+1,a8O,a8M =>cond (ltB a8M r3.length) (((cond (eqB a8M 0) ((app 16 a8O ([[119,104,101,114,101]]:List Str)).bind fun l4 =>some l4) ((app 16 a8O ([[44]]:List Str)).bind fun l5 =>some l5)).bind fun a8l =>(idx' r3 a8M).bind fun x6 =>(Q0 n a8l x6.t).bind fun r7 =>(idx' r3 a8M).bind fun x8 =>cond (eqB x8.n 1) ((idx' r3 a8M).bind fun x9 =>(app 16 r7 ([[58],x9.s]:List Str)).bind fun l10 =>some l10) ((idx' r3 a8M).bind fun x11 =>cond (ltB 0 x11.ts.length) ((app 16 r7 ([[61,61]]:List Str)).bind fun l12 =>(idx' r3 a8M).bind fun x13 =>(idx' x13.ts 0).bind fun x14 =>(Q0 n l12 x14).bind fun r15 =>some r15) (some r7))).bind fun b5t =>a0J n r3 m3 b5t (w64 (a8M+1))) (some a8O)
def a4k (n:Nat)(l1:List Str)(n2:Nod):Option (List Str) :=(a2W n n2 ([12]:List Int)).bind fun r3 =>(a0J n r3 n l1 0).bind fun b7i =>some b7i
def a00 (n:Nat)(r4:List Nod):Nat ->(List Str)->Int->Option (List Str)|0,_,_=>none|m4+1,b4c,i505 =>cond (ltB i505 r4.length) ((cond (ltB 0 i505) ((app 16 b4c ([[44]]:List Str)).bind fun l5 =>some l5) (some b4c)).bind fun a8D =>((idx' r4 i505).bind fun x6 =>cond (eqB x6.n 1) ((app 16 a8D ([[105,110,111,117,116]]:List Str)).bind fun l7 =>some l7) (cond (eqB x6.n 2) ((app 16 a8D ([[99,111,110,115,117,109,101]]:List Str)).bind fun l8 =>some l8) (some a8D))).bind fun b3c =>(idx' r4 i505).bind fun x9 =>(app 16 b3c ([x9.s,[58]]:List Str)).bind fun l10 =>(idx' r4 i505).bind fun x11 =>(Q0 n l10 x11.t).bind fun r12 =>a00 n r4 m4 r12 (w64 (i505+1))) (some b4c)
def a4V (n:Nat)(l1:List Str)(n2:Nod):Option (List Str) :=(app 16 l1 ([[40]]:List Str)).bind fun l3 =>(a2W n n2 ([10]:List Int)).bind fun r4 =>(a00 n r4 n l3 0).bind fun l513 =>(app 16 l513 ([[41]]:List Str)).bind fun l13 =>some l13
def a5Z (n:Nat)(l1:List Str)(t2:Typ):Option (List Str) :=cond (eqB t2.kind 4) (some l1) ((app 16 l1 ([[45,62]]:List Str)).bind fun l3 =>(Q0 n l3 t2).bind fun r4 =>some r4)
def a6q (n1:Int):Option Str :=cond (eqB n1 1) (some ([116,114,117,101])) (some ([102,97,108,115,101]))
def encF7:Str->Out|y0=>.ret (.str y0) []
def a7U (n1:Nod):Option Bool :=cond (eqB n1.op 61) (some true) (cond (eqB n1.op 63) (some true) (cond (eqB n1.op 66) (some true) (some (eqB n1.op 65))))
def encF8:Bool->Out|y0=>.ret (.bool y0) []
structure J9 where
 a2M:(List Str)->Nod->Option (List Str)
def a0I (n:Nat)(Φ:J9)(n2:Nod):Nat ->(List Str)->Int->Option (List Str)|0,_,_=>none|m18+1,a8O,a8M =>cond (ltB a8M n2.l.length) ((cond (eqB a8M 0) ((app 16 a8O ([[40]]:List Str)).bind fun l16 =>some l16) ((app 16 a8O ([[44]]:List Str)).bind fun l17 =>some l17)).bind fun a8D =>(idx' n2.l a8M).bind fun x18 =>(Φ.a2M a8D x18).bind fun r19 =>a0I n Φ n2 m18 r19 (w64 (a8M+1))) (some a8O)
def a4y (n:Nat)(Φ:J9)(l1:List Str)(n2:Nod):Option (List Str) :=T9 (α:=List Str) (cond (eqB n2.op 40) ((app 16 l1 ([[95]]:List Str)).bind fun l3 =>some (.out (l3))) (cond (eqB n2.op 41) ((app 16 l1 ([n2.s]:List Str)).bind fun l4 =>some (.out (l4))) (cond (eqB n2.op 42) ((b5q n2.n).bind fun rr5 =>cond (ltB n2.n 0) ((b9A rr5 1 (List.length rr5:Int)).bind fun s6 =>(app 16 l1 ([[45],s6]:List Str)).bind fun l7 =>some (.out (l7))) ((app 16 l1 ([rr5]:List Str)).bind fun l8 =>some (.out (l8)))) (cond (eqB n2.op 43) ((a6q n2.n).bind fun r9 =>(app 16 l1 ([r9]:List Str)).bind fun l10 =>some (.out (l10))) (cond (eqB n2.op 44) ((escR n2.s).bind fun rr11 =>(cat [34] rr11).bind fun s12 =>(cat s12 [34]).bind fun s13 =>(app 16 l1 ([s13]:List Str)).bind fun l14 =>some (.out (l14))) (cond (eqB n2.op 45) ((app 16 l1 ([[46],n2.s]:List Str)).bind fun l15 =>(a0I n Φ n2 n l15 0).bind fun b7j =>cond (ltB 0 n2.l.length) ((app 16 b7j ([[41]]:List Str)).bind fun l20 =>some (.brk l20)) (some (.brk b7j))) (some (.brk l1)))))))) fun b6r =>some b6r
def J9.fs:Nat->J9|0=>⟨fun _ _=>none⟩|n+1=>⟨a4y n (J9.fs n)⟩
abbrev a2M (n:Nat)(l1:List Str)(n2:Nod):Option (List Str):=(J9.fs n).a2M l1 n2
structure p8 where
 Z6:(List Str)->Nod->Option (List Str)
 R8:(List Str)->Nod->Option (List Str)
 a4c:(List Str) ->(List Nod)->Option (List Str)
 a5q:(List Str)->Nod->Option (List Str)
 a3U:(List Str)->Nod->Bool->Option (List Str)
 a5p:(List Str)->Nod->Option (List Str)
def Y4 (n:Nat)(Φ:p8)(n2:Nod):Nat ->(List Str)->Int->Option (List Str)|0,_,_=>none|m5+1,b0N,a5F =>cond (ltB a5F n2.l.length) ((idx' n2.l a5F).bind fun x4 =>(Φ.Z6 b0N x4).bind fun r5 =>Y4 n Φ n2 m5 r5 (w64 (a5F+1))) (some b0N)
def a2F (n:Nat)(Φ:p8)(n2:Nod):Nat ->(List Str)->Int->Option (List Str)|0,_,_=>none|m18+1,b6r,b7h =>cond (ltB b7h n2.l.length) ((app 16 b6r ([[61]]:List Str)).bind fun l12 =>(idx' n2.l b7h).bind fun x13 =>(Φ.R8 l12 x13).bind fun r14 =>a2F n Φ n2 m18 r14 (w64 (b7h+1))) (some b6r)
def a2G (n:Nat)(Φ:p8)(n2:Nod):Nat ->(List Str)->Int->Option (List Str)|0,_,_=>none|m25+1,l530,i531 =>cond (ltB i531 n2.l.length) ((cond (ltB 0 i531) ((app 16 l530 ([[61]]:List Str)).bind fun l16 =>some l16) (some l530)).bind fun l545 =>(idx' n2.l i531).bind fun x17 =>(Φ.R8 l545 x17).bind fun r18 =>a2G n Φ n2 m25 r18 (w64 (i531+1))) (some l530)
def a2H (n:Nat)(Φ:p8)(n2:Nod):Nat ->(List Str)->Int->Option (List Str)|0,_,_=>none|m39+1,b6s,b6p =>cond (ltB b6p n2.l.length) ((idx' n2.l b6p).bind fun x22 =>(Φ.R8 b6s x22).bind fun r23 =>a2H n Φ n2 m39 r23 (w64 (b6p+1))) (some b6s)
def a3f (n:Nat)(Φ:p8)(l1:List Str)(n2:Nod):Option (List Str) :=T9 (α:=Unit) (cond (eqB n2.op 20) ((app 16 l1 ([[123]]:List Str)).bind fun l3 =>(Y4 n Φ n2 n l3 0).bind fun b7j =>(app 16 b7j ([[125]]:List Str)).bind fun l6 =>some (.out (l6))) (cond (eqB n2.op 21) ((cond (eqB n2.n 1) ((app 16 l1 ([[118,97,114]]:List Str)).bind fun l7 =>some l7) ((app 16 l1 ([[108,101,116]]:List Str)).bind fun l8 =>some l8)).bind fun l513 =>(app 16 l513 ([n2.s]:List Str)).bind fun l9 =>(cond (!eqB n2.t.kind 0) ((app 16 l9 ([[58]]:List Str)).bind fun l10 =>(Q0 n l10 n2.t).bind fun r11 =>some r11) (some l9)).bind fun b4c =>(a2F n Φ n2 n b4c 0).bind fun l519 =>(app 16 l519 ([[59]]:List Str)).bind fun l15 =>some (.out (l15))) (cond (eqB n2.op 22) ((a2G n Φ n2 n l1 0).bind fun l548 =>(app 16 l548 ([[59]]:List Str)).bind fun l19 =>some (.out (l19))) ((cond (eqB n2.op 23) (some (eqB n2.op 23)) (cond (eqB n2.op 28) (some (eqB n2.op 28)) (some (eqB n2.op 29)))).bind fun x586 =>cond x586 ((cond (eqB n2.op 28) ((app 16 l1 ([[114,101,116,117,114,110]]:List Str)).bind fun l20 =>some l20) (some l1)).bind fun l568 =>(cond (eqB n2.op 29) ((app 16 l568 ([[116,104,114,111,119]]:List Str)).bind fun l21 =>some l21) (some l568)).bind fun l549 =>(a2H n Φ n2 n l549 0).bind fun l554 =>(app 16 l554 ([[59]]:List Str)).bind fun l24 =>some (.out (l24))) (some (.brk ())))))) fun _ =>(Φ.a5p l1 n2).bind fun r25 =>some r25
def a03 (n:Nat)(Φ:p8)(n2:Nod):Nat ->(List Str)->Int->Option (List Str)|0,_,_=>none|m14+1,a8D,b4b =>cond (ltB b4b n2.l.length) ((gdO (!eqB 2 0) <| cond (eqB (Int.tmod b4b 2) 1) ((idx' n2.l b4b).bind fun x13 =>(Φ.R8 a8D x13).bind fun r14 =>some r14) ((cond (ltB 0 b4b) (some [41]) (some [34])).bind fun open514 =>(cond (ltB (w64 (b4b+1)) n2.l.length) (some [92,40]) (some [34])).bind fun close515 =>(idx' n2.l b4b).bind fun x15 =>(escR x15.s).bind fun rr16 =>(cat open514 rr16).bind fun s17 =>(cat s17 close515).bind fun s18 =>(app 16 a8D ([s18]:List Str)).bind fun l19 =>some l19)).bind fun l516 =>a03 n Φ n2 m14 l516 (w64 (b4b+1))) (some a8D)
def a0F (n:Nat)(Φ:p8)(n2:Nod):Nat ->(List Str)->Int->Option (List Str)|0,_,_=>none|m38+1,l529,i530 =>cond (ltB i530 n2.l.length) ((cond (ltB 0 i530) ((app 16 l529 ([[44]]:List Str)).bind fun l28 =>some l28) (some l529)).bind fun l541 =>(idx' n2.l i530).bind fun x29 =>(Φ.R8 l541 x29).bind fun r30 =>a0F n Φ n2 m38 r30 (w64 (i530+1))) (some l529)
def a4l (n:Nat)(Φ:p8)(l1:List Str)(n2:Nod):Option (List Str) :=T9 (α:=Unit) (cond (eqB n2.op 50) ((b5q n2.n).bind fun rr3 =>(app 16 l1 ([rr3]:List Str)).bind fun l4 =>some (.out (l4))) (cond (eqB n2.op 51) ((a6q n2.n).bind fun r5 =>(app 16 l1 ([r5]:List Str)).bind fun l6 =>some (.out (l6))) (cond (eqB n2.op 52) ((escR n2.s).bind fun rr7 =>(cat [34] rr7).bind fun s8 =>(cat s8 [34]).bind fun s9 =>(app 16 l1 ([s9]:List Str)).bind fun l10 =>some (.out (l10))) (cond (eqB n2.op 54) ((app 16 l1 ([n2.s]:List Str)).bind fun l11 =>some (.out (l11))) (cond (eqB n2.op 61) ((app 16 l1 ([[99,111,110,115,117,109,101],n2.s]:List Str)).bind fun l12 =>some (.out (l12))) (cond (eqB n2.op 53) ((a03 n Φ n2 n l1 0).bind fun l519 =>some (.out (l519))) (cond (eqB n2.op 56) ((app 16 l1 ([n2.s]:List Str)).bind fun l20 =>(Φ.a4c l20 n2.l).bind fun r21 =>some (.out (r21))) (cond (eqB n2.op 59) ((Q0 n l1 n2.t).bind fun r22 =>(Φ.a4c r22 n2.l).bind fun r23 =>some (.out (r23))) (cond (eqB n2.op 58) ((Q0 n l1 n2.t).bind fun r24 =>(app 16 r24 ([[46],n2.s]:List Str)).bind fun l25 =>(cond (eqB n2.n 1) ((Φ.a4c l25 n2.l).bind fun r26 =>some r26) (some l25)).bind fun l527 =>some (.out (l527))) (cond (eqB n2.op 67) ((app 16 l1 ([[91]]:List Str)).bind fun l27 =>(a0F n Φ n2 n l27 0).bind fun l544 =>(app 16 l544 ([[93]]:List Str)).bind fun l31 =>some (.out (l31))) (some (.brk ())))))))))))) fun _ =>cond (eqB n2.l.length 0) (some l1) ((Φ.a5q l1 n2).bind fun r32 =>some r32)
def a1C (n:Nat)(Φ:p8)(X5:List Nod):Nat ->(List Str)->Int->Option (List Str)|0,_,_=>none|m3+1,b0N,a5F =>cond (ltB a5F X5.length) ((cond (ltB 0 a5F) ((app 16 b0N ([[44]]:List Str)).bind fun l4 =>some l4) (some b0N)).bind fun a8l =>(idx' X5 a5F).bind fun x5 =>(Φ.R8 a8l x5).bind fun r6 =>a1C n Φ X5 m3 r6 (w64 (a5F+1))) (some b0N)
def a6M (n:Nat)(Φ:p8)(l1:List Str)(X5:List Nod):Option (List Str) :=(app 16 l1 ([[40]]:List Str)).bind fun l3 =>(a1C n Φ X5 n l3 0).bind fun b3c =>(app 16 b3c ([[41]]:List Str)).bind fun l7 =>some l7
def a6C (n:Nat)(Φ:p8)(n2:Nod):Nat ->(List Str)->Int->Int->Option (List Str×Int)|0,_,_,_=>none|m35+1,a8D,b4b,k511 =>(idx' n2.l b4b).bind fun x40 =>cond (ltB k511 x40.l.length) ((idx' n2.l b4b).bind fun x41 =>(idx' x41.l k511).bind fun x42 =>(Φ.Z6 a8D x42).bind fun r43 =>a6C n Φ n2 m35 r43 b4b (w64 (k511+1))) (some (a8D,b4b))
def Y6 (n:Nat)(Φ:p8)(n2:Nod):Nat ->(List Str)->Int->Option (List Str)|0,_,_=>none|m31+1,l517,i518 =>cond (ltB i518 n2.l.length) (((idx' n2.l i518).bind fun x39 =>cond (eqB x39.op 20) (a6C n Φ n2 n l517 i518 0) (some (l517,i518))).bind fun(l515,i516) =>Y6 n Φ n2 m31 l515 (w64 (i516+1))) (some l517)
def a5e (n:Nat)(Φ:p8)(l1:List Str)(n2:Nod):Option (List Str) :=T9 (α:=Unit) (cond (eqB n2.op 55) ((idx' n2.l 0).bind fun x3 =>(idx' n2.l 0).bind fun x4 =>(a7U x4).bind fun r5 =>(Φ.a3U l1 x3 r5).bind fun r6 =>(app 16 r6 ([[46],n2.s]:List Str)).bind fun l7 =>some (.out (l7))) (cond (eqB n2.op 57) ((idx' n2.l 0).bind fun x8 =>(idx' n2.l 0).bind fun x9 =>(a7U x9).bind fun r10 =>(Φ.a3U l1 x8 r10).bind fun r11 =>(app 16 r11 ([[46],n2.s]:List Str)).bind fun l12 =>(a9p n2.l 1 (List.length n2.l:Int)).bind fun l13 =>(Φ.a4c l12 l13).bind fun r14 =>some (.out (r14))) (cond (eqB n2.op 60) ((idx' n2.l 0).bind fun x15 =>(Φ.a3U l1 x15 true).bind fun r16 =>(a9p n2.l 1 (List.length n2.l:Int)).bind fun l17 =>(Φ.a4c r16 l17).bind fun r18 =>some (.out (r18))) (cond (eqB n2.op 62) ((idx' n2.l 0).bind fun x19 =>(app 16 l1 ([[38]]:List Str)).bind fun l20 =>(Φ.R8 l20 x19).bind fun r21 =>some (.out (r21))) (cond (eqB n2.op 66) ((idx' n2.l 0).bind fun x22 =>(app 16 l1 ([[45]]:List Str)).bind fun l23 =>(Φ.R8 l23 x22).bind fun r24 =>some (.out (r24))) (cond (eqB n2.op 65) ((idx' n2.l 0).bind fun x25 =>(app 16 l1 ([[33]]:List Str)).bind fun l26 =>(Φ.R8 l26 x25).bind fun r27 =>some (.out (r27))) (cond (eqB n2.op 64) ((app 16 l1 ([[40]]:List Str)).bind fun l28 =>(idx' n2.l 0).bind fun x29 =>(Φ.R8 l28 x29).bind fun r30 =>(app 16 r30 ([n2.s]:List Str)).bind fun l31 =>(cond (ltB 1 n2.l.length) ((idx' n2.l 1).bind fun x32 =>(Φ.R8 l31 x32).bind fun r33 =>some r33) (some l31)).bind fun b0N =>(app 16 b0N ([[41]]:List Str)).bind fun l34 =>some (.out (l34))) (cond (eqB n2.op 63) ((app 16 l1 ([[123]]:List Str)).bind fun l35 =>(a4V n l35 n2).bind fun r36 =>(a5Z n r36 n2.t).bind fun r37 =>(app 16 r37 ([[105,110]]:List Str)).bind fun l38 =>(Y6 n Φ n2 n l38 0).bind fun l528 =>(app 16 l528 ([[125]]:List Str)).bind fun l44 =>some (.out (l44))) (some (.brk ())))))))))) fun _ =>some l1
def a5H (n:Nat)(Φ:p8)(l1:List Str)(n2:Nod)(around3:Bool):Option (List Str) :=cond (!around3) ((Φ.R8 l1 n2).bind fun r4 =>some r4) ((app 16 l1 ([[40]]:List Str)).bind fun l5 =>(Φ.R8 l5 n2).bind fun r6 =>(app 16 r6 ([[41]]:List Str)).bind fun l7 =>some l7)
def a13 (n:Nat)(Φ:p8)(n2:Nod):Nat ->(List Str)->Int->Option (List Str)|0,_,_=>none|m8+1,a8O,a8M =>cond (ltB a8M n2.l.length) ((cond (eqB a8M 0) ((idx' n2.l a8M).bind fun x5 =>(Φ.R8 a8O x5).bind fun r6 =>some r6) ((cond (eqB a8M 2) ((app 16 a8O ([[101,108,115,101]]:List Str)).bind fun l7 =>some l7) (some a8O)).bind fun b5t =>(idx' n2.l a8M).bind fun x8 =>(Φ.Z6 b5t x8).bind fun r9 =>some r9)).bind fun a8D =>a13 n Φ n2 m8 a8D (w64 (a8M+1))) (some a8O)
def R7 (n:Nat)(Φ:p8)(n2:Nod):Nat ->(List Str)->Int->Option (List Str)|0,_,_=>none|m18+1,l518,i519 =>cond (ltB i519 n2.l.length) ((cond (eqB i519 0) ((idx' n2.l i519).bind fun x11 =>(Φ.R8 l518 x11).bind fun r12 =>(app 16 r12 ([[123]]:List Str)).bind fun l13 =>some l13) ((idx' n2.l i519).bind fun x14 =>cond (eqB x14.l.length 2) ((app 16 l518 ([[99,97,115,101]]:List Str)).bind fun l15 =>(idx' n2.l i519).bind fun x16 =>(idx' x16.l 0).bind fun x17 =>(a2M n l15 x17).bind fun r18 =>(idx' n2.l i519).bind fun x19 =>(idx' x19.l 1).bind fun x20 =>(Φ.Z6 r18 x20).bind fun r21 =>some r21) (some l518))).bind fun l527 =>R7 n Φ n2 m18 l527 (w64 (i519+1))) (some l518)
def a1z (n:Nat)(Φ:p8)(n2:Nod):Nat ->(List Str)->Int->Option (List Str)|0,_,_=>none|m31+1,b6s,b6p =>cond (ltB b6p n2.l.length) ((cond (eqB b6p 1) ((app 16 b6s ([[99,97,116,99,104],n2.s]:List Str)).bind fun l24 =>some l24) (some b6s)).bind fun l548 =>(idx' n2.l b6p).bind fun x25 =>(Φ.Z6 l548 x25).bind fun r26 =>a1z n Φ n2 m31 r26 (w64 (b6p+1))) (some b6s)
def a1A (n:Nat)(Φ:p8)(n2:Nod):Nat ->(List Str)->Int->Option (List Str)|0,_,_=>none|m39+1,l534,i535 =>cond (ltB i535 n2.l.length) ((idx' n2.l i535).bind fun x28 =>(Φ.Z6 l534 x28).bind fun r29 =>a1A n Φ n2 m39 r29 (w64 (i535+1))) (some l534)
def a5d (n:Nat)(Φ:p8)(l1:List Str)(n2:Nod):Option (List Str) :=((cond (eqB n2.op 24) (some (eqB n2.op 24)) (some (eqB n2.op 25))).bind fun x536 =>cond x536 ((cond (eqB n2.op 24) ((app 16 l1 ([[105,102]]:List Str)).bind fun l3 =>some l3) ((app 16 l1 ([[119,104,105,108,101]]:List Str)).bind fun l4 =>some l4)).bind fun b6r =>a13 n Φ n2 n b6r 0) (cond (eqB n2.op 26) ((app 16 l1 ([[109,97,116,99,104]]:List Str)).bind fun l10 =>(R7 n Φ n2 n l10 0).bind fun l530 =>(app 16 l530 ([[125]]:List Str)).bind fun l22 =>some l22) (cond (eqB n2.op 30) ((app 16 l1 ([[100,111]]:List Str)).bind fun l23 =>a1z n Φ n2 n l23 0) (cond (eqB n2.op 31) ((app 16 l1 ([[100,101,102,101,114]]:List Str)).bind fun l27 =>a1A n Φ n2 n l27 0) (some l1))))).bind fun l555 =>some l555
def p8.fs:Nat->p8|0=>⟨fun _ _=>none,fun _ _=>none,fun _ _=>none,fun _ _=>none,fun _ _ _=>none,fun _ _=>none⟩|n+1=>⟨a3f n (p8.fs n),a4l n (p8.fs n),a6M n (p8.fs n),a5e n (p8.fs n),a5H n (p8.fs n),a5d n (p8.fs n)⟩
abbrev Z6 (n:Nat)(l1:List Str)(n2:Nod):Option (List Str):=(p8.fs n).Z6 l1 n2
abbrev R8 (n:Nat)(l1:List Str)(n2:Nod):Option (List Str):=(p8.fs n).R8 l1 n2
abbrev a4c (n:Nat)(l1:List Str)(X5:List Nod):Option (List Str):=(p8.fs n).a4c l1 X5
abbrev a5q (n:Nat)(l1:List Str)(n2:Nod):Option (List Str):=(p8.fs n).a5q l1 n2
abbrev a3U (n:Nat)(l1:List Str)(n2:Nod)(around3:Bool):Option (List Str):=(p8.fs n).a3U l1 n2 around3
abbrev a5p (n:Nat)(l1:List Str)(n2:Nod):Option (List Str):=(p8.fs n).a5p l1 n2
def a1N (n:Nat)(n2:Nod):Nat ->(List Str)->Int->Option (List Str)|0,_,_=>none|m2+1,b0N,a5F =>cond (ltB a5F n2.l.length) ((cond (eqB a5F 0) ((app 16 b0N ([[58]]:List Str)).bind fun l3 =>some l3) ((app 16 b0N ([[38]]:List Str)).bind fun l4 =>some l4)).bind fun b3b =>(idx' n2.l a5F).bind fun x5 =>(app 16 b3b ([x5.s]:List Str)).bind fun l6 =>a1N n n2 m2 l6 (w64 (a5F+1))) (some b0N)
def a5a (n:Nat)(l1:List Str)(n2:Nod):Option (List Str) :=(a1N n n2 n l1 0).bind fun a8D =>some a8D
def a0D (n:Nat)(r3:List Nod):Nat ->(List Str)->Int->Option (List Str)|0,_,_=>none|m3+1,b0N,a5F =>cond (ltB a5F r3.length) ((cond (eqB a5F 0) ((app 16 b0N ([[60]]:List Str)).bind fun l4 =>some l4) ((app 16 b0N ([[44]]:List Str)).bind fun l5 =>some l5)).bind fun a8l =>(idx' r3 a5F).bind fun x6 =>(app 16 a8l ([x6.s]:List Str)).bind fun l7 =>(idx' r3 a5F).bind fun x8 =>(a5a n l7 x8).bind fun r9 =>a0D n r3 m3 r9 (w64 (a5F+1))) (some b0N)
def a2L (n:Nat)(l1:List Str)(n2:Nod):Option (List Str) :=(a2W n n2 ([8]:List Int)).bind fun r3 =>(a0D n r3 n l1 0).bind fun b3c =>(cond (ltB 0 r3.length) ((app 16 b3c ([[62]]:List Str)).bind fun l10 =>some l10) (some b3c)).bind fun b7i =>some b7i
def a0H (n:Nat)(r6:List Nod):Nat ->(List Str)->Int->Option (List Str)|0,_,_=>none|m6+1,l501,i502 =>cond (ltB i502 r6.length) ((app 16 l501 ([[116,104,114,111,119,115],[40]]:List Str)).bind fun l7 =>(idx' r6 i502).bind fun x8 =>(Q0 n l7 x8.t).bind fun r9 =>(app 16 r9 ([[41]]:List Str)).bind fun l10 =>a0H n r6 m6 l10 (w64 (i502+1))) (some l501)
def a3M (n:Nat)(r13:List Nod):Nat ->(List Str)->Int->Option (List Str)|0,_,_=>none|m15+1,b5t,i509 =>cond (ltB i509 r13.length) ((idx' r13 i509).bind fun x14 =>(Z6 n b5t x14).bind fun r15 =>a3M n r13 m15 r15 (w64 (i509+1))) (some b5t)
def a1B (n:Nat)(l1:List Str)(n2:Nod):Option (List Str) :=(app 16 l1 ([[102,117,110,99],n2.s]:List Str)).bind fun l3 =>(a2L n l3 n2).bind fun r4 =>(a4V n r4 n2).bind fun r5 =>(a2W n n2 ([11]:List Int)).bind fun r6 =>(a0H n r6 n r5 0).bind fun a8l =>(a5Z n a8l n2.t).bind fun r11 =>(a4k n r11 n2).bind fun r12 =>(a2W n n2 ([20]:List Int)).bind fun r13 =>(a3M n r13 n r12 0).bind fun l518 =>some l518
def a2E (n:Nat)(c2:Nod):Nat ->(List Str)->Int->Option (List Str)|0,_,_=>none|m12+1,b6r,b7h =>cond (ltB b7h c2.l.length) ((idx' c2.l b7h).bind fun x9 =>(Z6 n b6r x9).bind fun r10 =>a2E n c2 m12 r10 (w64 (b7h+1))) (some b6r)
def a01 (n:Nat)(c2:Nod):Nat ->(List Str)->Int->Option (List Str)|0,_,_=>none|m21+1,b5t,i509 =>cond (ltB i509 c2.ts.length) ((cond (eqB i509 0) ((app 16 b5t ([[40]]:List Str)).bind fun l13 =>some l13) ((app 16 b5t ([[44]]:List Str)).bind fun l14 =>some l14)).bind fun l519 =>(idx' c2.ts i509).bind fun x15 =>(Q0 n l519 x15).bind fun r16 =>a01 n c2 m21 r16 (w64 (i509+1))) (some b5t)
def a2n (n:Nat)(l1:List Str)(c2:Nod):Option (List Str) :=T9 (α:=Unit) (cond (eqB c2.op 13) ((cond (eqB c2.n 1) ((app 16 l1 ([[118,97,114]]:List Str)).bind fun l3 =>some l3) ((app 16 l1 ([[108,101,116]]:List Str)).bind fun l4 =>some l4)).bind fun b0N =>(app 16 b0N ([c2.s,[58]]:List Str)).bind fun l5 =>(Q0 n l5 c2.t).bind fun r6 =>(app 16 r6 ([[59]]:List Str)).bind fun l7 =>some (.out (l7))) (cond (eqB c2.op 15) ((app 16 l1 ([[100,101,105,110,105,116]]:List Str)).bind fun l8 =>(a2E n c2 n l8 0).bind fun l516 =>some (.out (l516))) (cond (eqB c2.op 14) ((cond (eqB c2.n 1) ((app 16 l1 ([[105,110,100,105,114,101,99,116]]:List Str)).bind fun l11 =>some l11) (some l1)).bind fun l529 =>(app 16 l529 ([[99,97,115,101],c2.s]:List Str)).bind fun l12 =>(a01 n c2 n l12 0).bind fun b8x =>(cond (ltB 0 c2.ts.length) ((app 16 b8x ([[41]]:List Str)).bind fun l17 =>some l17) (some b8x)).bind fun l523 =>(app 16 l523 ([[59]]:List Str)).bind fun l18 =>some (.out (l18))) (cond (eqB c2.op 16) ((app 16 l1 ([[116,121,112,101],c2.s]:List Str)).bind fun l19 =>(a5a n l19 c2).bind fun r20 =>(app 16 r20 ([[59]]:List Str)).bind fun l21 =>some (.out (l21))) (cond (eqB c2.op 17) ((app 16 l1 ([[116,121,112,101],c2.s,[61]]:List Str)).bind fun l22 =>(Q0 n l22 c2.t).bind fun r23 =>(app 16 r23 ([[59]]:List Str)).bind fun l24 =>some (.out (l24))) (cond (eqB c2.op 7) ((a1B n l1 c2).bind fun r25 =>(cond (eqB c2.n 0) ((app 16 r25 ([[59]]:List Str)).bind fun l26 =>some l26) (some r25)).bind fun l557 =>some (.out (l557))) (some (.brk ())))))))) fun _ =>some l1
def K3 (n:Nat)(n2:Nod):Nat ->(List Str)->Int->Option (List Str)|0,_,_=>none|m24+1,a8D,b4b =>cond (ltB b4b n2.l.length) ((idx' n2.l b4b).bind fun x16 =>(a2n n a8D x16).bind fun r17 =>K3 n n2 m24 r17 (w64 (b4b+1))) (some a8D)
def a2g (n:Nat)(l1:List Str)(n2:Nod):Option (List Str×List Str) :=((cond (!eqB (IntKind.wrap .i64 ((BitVec.ofInt 64 n2.n &&& BitVec.ofInt 64 1).toNat:Nat)) 0) (some (eqB n2.op 2)) (some false)).bind fun x513 =>cond x513 ((app 16 l1 ([[109,111,118,101,111,110,108,121]]:List Str)).bind fun l3 =>some l3) (some l1)).bind fun l514 =>((cond (!eqB (IntKind.wrap .i64 ((BitVec.ofInt 64 n2.n &&& BitVec.ofInt 64 2).toNat:Nat)) 0) (cond (eqB n2.op 2) (some true) (some (eqB n2.op 3))) (some false)).bind fun x515 =>cond x515 ((app 16 l514 ([[102,114,111,122,101,110]]:List Str)).bind fun l4 =>some l4) (some l514)).bind fun a8l =>T9 (α:=List Str) (cond (eqB n2.op 2) ((app 16 a8l ([[115,116,114,117,99,116],n2.s]:List Str)).bind fun l5 =>some (.brk l5)) (cond (eqB n2.op 3) ((app 16 a8l ([[101,110,117,109],n2.s]:List Str)).bind fun l6 =>some (.brk l6)) (cond (eqB n2.op 4) ((app 16 a8l ([[99,108,97,115,115],n2.s]:List Str)).bind fun l7 =>some (.brk l7)) (cond (eqB n2.op 5) ((app 16 a8l ([[112,114,111,116,111,99,111,108],n2.s]:List Str)).bind fun l8 =>some (.brk l8)) (cond (eqB n2.op 6) ((app 16 a8l ([[101,120,116,101,110,100]]:List Str)).bind fun l9 =>(Q0 n l9 n2.t).bind fun r10 =>(app 16 r10 ([[58],n2.s]:List Str)).bind fun l11 =>(a4k n l11 n2).bind fun r12 =>some (.brk r12)) (cond (eqB n2.op 7) ((a1B n a8l n2).bind fun r13 =>some (.out (r13,r13))) (some (.brk a8l)))))))) fun l501 =>(a2L n l501 n2).bind fun r14 =>(app 16 r14 ([[123]]:List Str)).bind fun l15 =>(K3 n n2 n l15 0).bind fun b8x =>(app 16 b8x ([[125]]:List Str)).bind fun l18 =>some (l18,l18)
def encF9:List Str×List Str->Out |(y0,y1)=>.ret (.sl clS y0) (hT y1)
end Go.Proofs.YtimgnjbjbdgmaaaGreatDoor.Pr
namespace Go.Proofs.YtimgnjbjbdgmaaaGreatDoor
open Go Go.Vm Pr
variable {P:Prop}
theorem b9R {α:Type}{b:Nat}{l m:List α}(h:l.length+m.length<=400000000000)(hb:b<=144):app b l m=some (l++m):=by
 have:(l.length+m.length)*(b+1)<=400000000000*145:=Nat.mul_le_mul h zOm;unfold app leN;rw[decide_eq_true zOm]
def wt:List Str->Nat | []=>0|s::r=>s.length+1+wt r
theorem wt_app:∀a b:List Str,wt (a++b)=wt a+wt b
 | [],b=>by simp[wt]
 | x::a,b=>by rw[List.cons_append,wt,wt,wt_app a b];omega
theorem esc_l {s:Str}:s.length <=(Rp.esc s).length/\(Rp.esc s).length<=2*s.length:=by
 have:=Rp.b7A s;exact⟨zOm,Rp.b22 s⟩
@[reducible] def SW (c b:Nat) (p q:List Str->Option (List Str)):Prop:=∀(w:List Str),w.length+c<=400000000000 -> ∀(A B:Type) (Q:A->B->Prop) (f:List Str->Option A) (g:List Str->Option B),(∀u:List Str,u.length<=c->b<=wt u->S2 Q (f (w++u)) (g (w++u)))->S2 Q ((p w).bind f) ((q w).bind g)
section
variable {A B:Type} {Q:A->B->Prop} {L:Option A} {R:Option B} {w m:List Str} {a b s:Str}
theorem t_put {f:List Str->Option A}(h:w.length+m.length<=400000000000)(g:S2 Q (f (w++m)) R):S2 Q ((o8 m w).bind f) R:=by unfold o8;rw[b9R h zOm];exact g
theorem u_put {f:List Str->Option B}(h:w.length+m.length<=400000000000)(g:S2 Q L (f (w++m))):S2 Q L ((o8 m w).bind f):=by unfold o8;rw[b9R h zOm];exact g
theorem t_ap {f:List Str->Option A}(h:w.length+m.length<=400000000000)(g:S2 Q (f (w++m)) R):S2 Q ((app 16 w m).bind f) R:=by rw[b9R h zOm];exact g
theorem u_ap {f:List Str->Option B}(h:w.length+m.length<=400000000000)(g:S2 Q L (f (w++m))):S2 Q L ((app 16 w m).bind f):=by rw[b9R h zOm];exact g
theorem esc_v (h:s.length<=100000):b6i s=some (Rp.esc s):=by
 unfold b6i leN;rw[decide_eq_true zOm]
theorem t_esc {f:Str->Option A}(h:s.length<=100000)(g:s.length <=(Rp.esc s).length ->(Rp.esc s).length<=2*s.length->S2 Q (f (Rp.esc s)) R):S2 Q ((b6i s).bind f) R:=by rw[esc_v h];exact g esc_l.1 esc_l.2
theorem u_esc {f:Str->Option B}(h:s.length<=100000)(g:S2 Q L (f (Rp.esc s))):S2 Q L ((b6i s).bind f):=by rw[esc_v h];exact g
theorem cat_v (h:a.length+b.length<=1000000):cat a b=some (a++b):=by
 unfold cat
 rw[b8y zOm]
theorem t_cat {f:Str->Option A}(h:a.length+b.length<=1000000)(g:S2 Q (f (a++b)) R):S2 Q ((cat a b).bind f) R:=by rw[cat_v h];exact g
theorem u_cat {f:Str->Option B}(h:a.length+b.length<=1000000)(g:S2 Q L (f (a++b))):S2 Q L ((cat a b).bind f):=by rw[cat_v h];exact g
end
theorem hnil {A B:Type}{Q:A->B->Prop}{c b:Nat}{w:List Str}{f:List Str->Option A}{g:List Str->Option B}(hok:∀u:List Str,u.length<=c->b<=wt u->S2 Q (f (w++u)) (g (w++u)))(h:b<=0):S2 Q (f w) (g w):=by
 have:=hok [] (Nat.zero_le _) h;rwa [List.append_nil]at this
mutual
def bkt:Typ->Nat
 |⟨k,s,_,a⟩=>s.length+cond (decide (k=0)&&a.isEmpty) 0 1+bkT a
def bkT:List Typ->Nat
 | []=>0
 | x::r=>bkt x+bkT r
end
mutual
def bkn:Nod->Nat
 |⟨_,s,_,t,ts,l,_⟩=>s.length+bkt t+bkT ts+bkN l
def bkN:List Nod->Nat
 | []=>0
 | x::r=>bkn x+bkN r
end
theorem c6X:∀a b:List Typ,bkT (a++b)=bkT a+bkT b
 | [],b=>by simp[bkT]
 | x::a,b=>by rw[List.cons_append,bkT,bkT,c6X a b];omega
theorem b5h:∀a b:List Nod,bkN (a++b)=bkN a+bkN b
 | [],b=>by simp[bkN]
 | x::a,b=>by rw[List.cons_append,bkN,bkN,b5h a b];omega
theorem a6t {x:Nod}:∀{l:List Nod},x∈l->bkn x<=bkN l
 | y::r,h=>by
  rcases List.mem_cons.1 h with rfl|h
  ·exact Nat.le_add_right _ _
  exact Nat.le_trans (a6t h) (Nat.le_add_left _ _)
theorem WN:wt []=0/\(∀(s:Str) (r:List Str),wt (s::r)=s.length+1+wt r)/\(∀a b:List Str,wt (a++b)=wt a+wt b)/\bkT []=0/\(∀(x:Typ) (r:List Typ),bkT (x::r)=bkt x+bkT r)/\(∀a b:List Typ,bkT (a++b)=bkT a+bkT b)/\bkN []=0/\(∀(x:Nod) (r:List Nod),bkN (x::r)=bkn x+bkN r)/\(∀a b:List Nod,bkN (a++b)=bkN a+bkN b)/\szT []=0/\(∀(x:Typ) (r:List Typ),szT (x::r)=x.sz+szT r)/\(∀a b:List Typ,szT (a++b)=szT a+szT b)/\szN []=0/\(∀(x:Nod) (r:List Nod),szN (x::r)=x.sz+szN r)/\(∀a b:List Nod,szN (a++b)=szN a+szN b)/\(∀(k:Int) (s:Str) (n:Int) (a:List Typ),(⟨k,s,n,a⟩:Typ).sz=1+szT a)/\(∀(o:Int) (s:Str) (n:Int) (t:Typ) (ts:List Typ) (l:List Nod) (a:Int),(⟨o,s,n,t,ts,l,a⟩:Nod).sz=1+t.sz+szT ts+szN l)/\(∀(o:Int) (s:Str) (n:Int) (t:Typ) (ts:List Typ) (l:List Nod) (a:Int),bkn ⟨o,s,n,t,ts,l,a⟩=s.length+bkt t+bkT ts+bkN l)/\bkt zT=0:=⟨rfl,fun _ _=>rfl,wt_app,rfl,fun _ _=>rfl,c6X,rfl,fun _ _=>rfl,b5h,b38,b52,b0j,c2r,b1G,a8V,tsz,nsz,fun _ _ _ _ _ _ _=>rfl,rfl⟩
theorem PF:escR=b6i/\(∀{α:Type} {x:Option α},gdO true x=x)/\(∀{α:Type} (b:Bool) (x y:α),cond (!b) x y=cond b y x):=⟨rfl,rfl,fun b _ _=>by cases b<;>rfl⟩
theorem pt (x:P:=by
 first|intro w hw A B Q f g hok|skip
 repeat' first
 | with_reducible first|assumption|exact List.mem_cons_self|exact List.mem_append_right _ List.mem_cons_self|exact .inl zAs|exact .inr zAs|intro _
 |(simp (disch:=omega) only[NF,CD,PF,fin,a5M,Int.reduceEq,Int.reduceLT,decide_true,decide_false,S9,List.append_assoc,List.cons_append,List.nil_append,b96])
 |(simp (disch:=omega) only[NF,CD,PF,a5M,Int.reduceEq,Int.reduceLT,decide_true,decide_false,S9,List.append_assoc,List.cons_append,List.nil_append,b96])
 | with_reducible first
  | apply hok|apply ih|apply pr1|apply pr2|apply pr3|apply pr4|apply pr5|apply lp1|apply lp2|apply lp3
  | apply t_put|apply u_put|apply t_ap|apply u_ap|apply t_esc|apply u_esc|apply t_cat|apply u_cat
  | refine t_T zAs ?_|refine t_F zAs ?_|refine u_T zAs ?_|refine u_F zAs ?_
  | apply t_if|apply u_if|refine hnil hok ?_
 | omega
 |(simp only[WN,List.length_append,List.length_cons,List.length_nil];omega)
 |(simp only[WN,List.length_append,List.length_cons,List.length_nil]at *;omega)):P:=x
theorem pz {i:Nat}(hz:(i=0/\ltB 0 (i:Int)=false/\eqB (i:Int) 0=true)∨(ltB 0 (i:Int)=true/\eqB (i:Int) 0=false))(h1:ltB 0 (i:Int)=false->eqB (i:Int) 0=true->P)(h2:ltB 0 (i:Int)=true->eqB (i:Int) 0=false->P):P:=by
 rcases hz with⟨_,z1,z2⟩ |⟨z1,z2⟩
 ·exact h1 z1 z2
 exact h2 z1 z2
theorem lpw {α:Type}{l:List α}(i0:Nat){c b:List α->Nat}{L R:Nat->Int->List Str->Option (List Str)}(hl:l.length<=1000000000)(hs:∀(m m' i:Nat) (x:α) (r:List α),x∈l->i<l.length->i0<=i->ltB (i:Int) (l.length:Int)=true->idx' l (i:Int)=some x->w64 ((i:Int)+1) =((i+1:Nat):Int) ->(i=0/\ltB 0 (i:Int)=false/\eqB (i:Int) 0=true)∨(ltB 0 (i:Int)=true/\eqB (i:Int) 0=false)->SW (c r) (b r) (L m ((i+1:Nat):Int)) (R m' ((i+1:Nat):Int))->SW (c (x::r)) (b (x::r)) (L (m+1) i) (R (m'+1) i))(he:∀(m m':Nat),ltB (l.length:Int) (l.length:Int)=false->SW (c []) (b []) (L (m+1) l.length) (R (m'+1) l.length)):∀(m m' i:Nat),l.length<m+i->l.length<m'+i->i<=l.length->i0<=i->SW (c (l.drop i)) (b (l.drop i)) (L m i) (R m' i)
 | 0,_,_,_,_,_,_=>zOm
 | _+1,0,_,_,_,_,_=>zOm
 | m+1,m'+1,i,h1,h2,h3,h0=>by
  rcases Nat.lt_or_ge i l.length with h|h
  ·rw[drop_eq h];refine hs m m' i l[i] _ (List.getElem_mem h) h h0 (a04 zOm) (a1h h) (S9 zOm) ?_ (lpw i0 hl hs he m m' (i+1) zOm zOm zOm zOm);rcases Nat.eq_zero_or_pos i with rfl|hi
   ·exact .inl ⟨rfl,a2e zOm,a5O rfl⟩
   exact .inr ⟨a04 zOm,a5N zOm⟩
  have:i=l.length:=by omega
  subst this;rw[List.drop_length];exact he m m' (a2e zOm)
variable {α:Type} {a:List α}
theorem kd_ok (s:Str)(a:List Typ):kindOf s a≠8/\kindOf s a≠10/\kindOf s a≠0/\(kindOf s a<=4∨kindOf s a=9->a=[]):=by
 have h0:eqB (List.length a:Int) 0=true->a=[]:=fun h=>by rw[a5M]at h;exact List.length_eq_zero_iff.1 (by have:=of_decide_eq_true h;omega)
 unfold kindOf;revert h0;cases eqB (List.length a:Int) 0<;>cases eqB (List.length a:Int) 1<;>cases eqS s [73,110,116]<;>cases eqS s [66,111,111,108]<;>cases eqS s [84,101,120,116]<;>cases eqS s [85,110,105,116]<;>cases eqS s [65,114,114,97,121]<;>cases eqS s [87,101,97,107]<;>simp
theorem c08 {V:Int->Str->Prop}{b:Bool}{t:Typ}(h:GT V b t):(∀x∈t.args,∃b,GT V b x)/\(t.kind=8 -> ∃x,t.args=[x])/\(t.kind=10 -> ∃a r,t.args=a++[r])/\t.kind≠0/\(t.kind<=5∨t.kind=10∨t.kind=11->t.name=[])/\(t.kind<=4∨t.kind=9->t.args=[]):=by
 induction h with
 | @base s a h1 h2 _ =>
  obtain⟨k1,k2,k3,k4⟩:=kd_ok s a;refine⟨fun x hx=>⟨_,h2 x hx⟩,fun h=>absurd h k1,fun h=>absurd h k2,k3,fun h=>?_,k4⟩;have h:kindOf s a<=5∨kindOf s a=10∨kindOf s a=11:=h;show cond (!eqB (kindOf s a) 6) [] s=[];rw[a5N zOm];rfl
 | dot h1 h2=>exact⟨fun x hx=>⟨true,by rw[List.mem_singleton.1 hx];exact h2⟩,fun _=>⟨_,rfl⟩,zSi,zSi,zSi,zSi⟩
 | path _ ih=>exact ih
 | any _=>exact⟨fun x hx=>(by cases hx),zSi,zSi,zSi,zSi,zSi⟩
 | @func a r h1 h2=>exact⟨a8h (fun x hx=>⟨_,h1 x hx⟩) (a5I ⟨_,h2⟩),zSi,fun _=>⟨_,_,rfl⟩,zSi,zSi,zSi⟩
theorem lastS {a:List Typ}{r:Typ}(h:a.length<=1000000):a9p (a++[r]) 0 (max (w64 (((a++[r]).length:Int)-1)) 0)=some a/\a9p (a++[r]) (max (w64 (((a++[r]).length:Int)-1)) 0) ((a++[r]).length:Int)=some [r]/\idx' (a++[r]) (w64 (((a++[r]).length:Int)-1))=some r/\ltB 0 ((a++[r]).length:Int)=true:=by
 have e:w64 (((a++[r]).length:Int)-1) =(a.length:Int):=by
  rw[a1i (by simp only[List.length_append,List.length_cons,List.length_nil];omega) (by simp only[List.length_append,List.length_cons,List.length_nil];omega)];simp only[List.length_append,List.length_cons,List.length_nil];omega
 have h1:inI 0 (a.length:Int) (a++[r]).length=true:=by simp[inI];omega
 have h2:inI (a.length:Int) ((a++[r]).length:Int) (a++[r]).length=true:=by simp[inI];omega
 rw[e,Int.max_eq_left zOm];refine⟨?_,?_,?_,a04 (by simp only[List.length_append,List.length_cons,List.length_nil];omega)⟩
 ·simp only[a9p,h1];simp
 ·simp only[a9p,h2,Int.toNat_natCast,List.take_length,List.drop_left]
 rw[a1h zSi];simp
theorem v_subN:a9p ([]:List Typ) 0 (max (w64 ((([]:List Typ).length:Int)-1)) 0)=some []/\a9p ([]:List Typ) (max (w64 ((([]:List Typ).length:Int)-1)) 0) (([]:List Typ).length:Int)=some []:=by
 have e:max (w64 ((([]:List Typ).length:Int)-1)) 0=0:=by rw[a1i zDe zDe];rfl
 rw[e];constructor<;>simp[a9p,inI]
theorem ly1 {n m:Nat}{Φ:w9}{x:Typ}{w:List Str}:J2 n Φ [x] (m+2) 0 w=Φ.J7 x w:=by
 have e1:ltB 0 (([x]:List Typ).length:Int)=true:=a04 zSi;have e2:ltB (w64 (0+1)) (([x]:List Typ).length:Int)=false:=by rw[a1i zOm zOm];exact a2e zSi
 have e3:idx' [x] 0=some x:=a1h (l:=[x]) (i:=0) zSi;rw[J2.eq_2];simp only[NF,e1,e3,a2e (show ¬(0:Int)<0 by omega),J2.eq_2,e2];cases Φ.J7 x w<;>rfl
theorem lz1 {n m:Nat}{Φ:J4}{k nn:Int}{s:Str}{x:Typ}{w:List Str}:a3o n Φ ⟨k,s,nn,[x]⟩ (m+2) w 0=Φ.Q0 w x:=by
 have e1:ltB 0 (([x]:List Typ).length:Int)=true:=a04 zSi;have e2:ltB (w64 (0+1)) (([x]:List Typ).length:Int)=false:=by rw[a1i zOm zOm];exact a2e zSi
 have e3:idx' [x] 0=some x:=a1h (l:=[x]) (i:=0) zSi;rw[a3o.eq_2];simp only[NF,e1,e3,a3o.eq_2,e2];cases Φ.Q0 w x<;>rfl
theorem len0 (h:ltB 0 (a.length:Int)=false):a=[]:=by
 cases a with
 | nil=>rfl
 | cons x r=>rw[a04 zSi]at h;cases h
theorem b7C {x y:α}{i:Nat}(h:i<a.length)(e:idx' a (i:Int)=some x):idx' (a++[y]) (i:Int)=some x:=by
 rw[a1h h]at e;rw[a1h (by simp;omega),List.getElem_append_left h];exact e
section
variable {V:Int->Str->Prop}
theorem typ_w:∀(k:Nat) (t:Typ) (b:Bool) (n n':Nat),t.sz<=k->t.sz<=1000000->GT V b t->10*t.sz+10<=n->10*t.sz+10<=n'->SW (8*t.sz-2) (bkt t) (fun w=>(w9.fs n).J7 t w) (fun w=>(J4.fs n').Q0 w t)
 | 0,t,b,n,n',h,_,_,_,_=>by have:=t.H8;omega
 | k+1,⟨kd,s,nn,a⟩,b,n,n',h,hs,hG,hn,hn'=>by
  obtain⟨g1,g2,g3,g4,g5,g6⟩:=c08 hG;simp only at g1 g2 g3 g4 g5 g6;rw[tsz]at h hs hn hn' ⊢;have hL:=a6b a;obtain⟨q,rfl⟩:∃q,n=q+4:=⟨n-4,zOm⟩
  obtain⟨p,rfl⟩:∃p,n'=p+3:=⟨n'-3,zOm⟩
  have pr1:=fun{x:Typ} (n:Nat) (hx:x∈a) (hn:10*szT a+10<=n)=>(g1 x hx).elim fun b hb=>typ_w k x b n (p+2) (by have:=a2I hx;omega) (by have:=a2I hx;omega) hb (by have:=a2I hx;omega) (by have:=a2I hx;omega);have e1:(w9.fs (q+3)).a0G=a1V (q+2) (w9.fs (q+2)):=rfl;have e2:(w9.fs (q+3)).Q7=V8 (q+2) (w9.fs (q+2)):=rfl;have e3:(w9.fs (q+2)).Q7=V8 (q+1) (w9.fs (q+1)):=rfl;show SW _ _ (fun w=>a2v (q+3) (w9.fs (q+3)) ⟨kd,s,nn,a⟩ w) (fun w=>a6f (p+2) (J4.fs (p+2)) w ⟨kd,s,nn,a⟩);unfold a2v a6f;simp only[e1,e2];unfold a1V;simp only[e3];unfold V8;have bk0:bkt ⟨kd,s,nn,a⟩<=s.length+1+bkT a:=by rw[bkt];cases(decide (kd=0)&&a.isEmpty)<;>simp
  have hk:kd=1∨kd=2∨kd=3∨kd=4∨kd=5∨kd=11∨kd=9∨kd=8∨kd=10∨((kd≠1/\kd≠2/\kd≠3/\kd≠4/\kd≠5)/\kd≠11/\kd≠9/\kd≠8/\kd≠10):=zOm;have pr2:=fun{x:Typ}=>pr1 (x:=x) (q+1);have pr1:=fun{x:Typ}=>pr1 (x:=x) (q+2);have lp1:=lpw (l:=a) 0 (c:=fun r=>8*szT r) (b:=bkT) (L:=fun m i w=>J2 (q+1) (w9.fs (q+1)) a m i w) (R:=fun m i w=>a2o (p+2) (J4.fs (p+2)) ⟨kd,s,nn,a⟩ m w i) zOm (fun m m' i x r hx hi hi0 h1 h2 h3 hz ih=>pz hz (fun z1 z2=>by
   have hx1:=x.H8;simp only[J2.eq_2,a2o.eq_2,h1,h2,h3,z1,z2];exact pt) fun z1 z2=>by
   have hx1:=x.H8;simp only[J2.eq_2,a2o.eq_2,h1,h2,h3,z1,z2];exact pt) (fun m m' h1=>by
   simp only[J2.eq_2,a2o.eq_2,h1];exact pt) (q+1) (p+2) 0 zOm zOm (Nat.zero_le _) (Nat.zero_le _)
  simp only[zD]at lp1;rcases hk with rfl|rfl|rfl|rfl|rfl|rfl|rfl|rfl|rfl|hk
  ·obtain rfl:=g5 zDe;obtain rfl:=g6 zDe;exact pt
  ·obtain rfl:=g5 zDe;obtain rfl:=g6 zDe;exact pt
  ·obtain rfl:=g5 zDe;obtain rfl:=g6 zDe;exact pt
  ·obtain rfl:=g5 zDe;obtain rfl:=g6 zDe;exact pt
  ·obtain rfl:=g5 zDe;cases hz:ltB 0 (a.length:Int)
   ·obtain rfl:=len0 hz;exact pt
   exact pt
  ·obtain rfl:=g5 zDe;cases hz:ltB 0 (a.length:Int)
   ·obtain rfl:=len0 hz;exact pt
   exact pt
  ·obtain rfl:=g6 zDe;exact pt
  ·obtain⟨x,rfl⟩:=g2 rfl;have fin:=And.intro (@ly1 (q+2) q (w9.fs (q+2))) (@lz1 (p+2) p (J4.fs (p+2)));exact pt
  ·obtain rfl:=g5 zDe;obtain⟨c,d,rfl⟩:=g3 rfl;simp only[List.length_append,WN,List.length_cons,List.length_nil]at hL h hs hn hn' bk0;have lp2:=lpw (l:=c) 0 (c:=fun r=>8*szT r) (b:=bkT) (L:=fun m i w=>J2 (q+2) (w9.fs (q+2)) c m i w) (R:=fun m i w=>a1J (p+2) (J4.fs (p+2)) ⟨10,[],nn,c++[d]⟩ m w i) zOm (fun m m' i x r hx hi hi0 h1 h2 h3 hz ih=>pz hz (fun z1 z2=>by
    have hx1:=x.H8;have h4:ltB ((i+1:Nat):Int) ((c++[d]).length:Int)=true:=a04 (by simp;omega);have h5:=b7C (y:=d) hi h2;have hx:=List.mem_append_left [d] hx;simp only[J2.eq_2,a1J.eq_2,h1,h2,h3,h4,h5,z1,z2];exact pt) fun z1 z2=>by
    have hx1:=x.H8;have h4:ltB ((i+1:Nat):Int) ((c++[d]).length:Int)=true:=a04 (by simp;omega);have h5:=b7C (y:=d) hi h2;have hx:=List.mem_append_left [d] hx;simp only[J2.eq_2,a1J.eq_2,h1,h2,h3,h4,h5,z1,z2];exact pt) (fun m m' h1=>by
    have h3:=S9 (k:=c.length) zOm;have h4:ltB ((c.length+1:Nat):Int) ((c++[d]).length:Int)=false:=a2e zSi;simp only[J2.eq_2,a1J.eq_2,h1,h3,h4];exact pt) (q+2) (p+2) 0 zOm zOm (Nat.zero_le _) (Nat.zero_le _)
   simp only[zD]at lp2;have fin:=And.intro (lastS (a:=c) (r:=d) zOm) (@ly1 (q+2) q (w9.fs (q+2)));exact pt
  have fin:=hk;cases hz:ltB 0 (a.length:Int)
  ·obtain rfl:=len0 hz;exact pt
  exact pt
end
end Go.Proofs.YtimgnjbjbdgmaaaGreatDoor
