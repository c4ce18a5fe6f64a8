/- What the functions under ParseSpeaks compute, step by step, as functions in Lean: texts that were built one by one, joined. -/
import Derived.Test.YtmippldlhnajkaaGreatDoorParseSpeaksJ21
set_option maxRecDepth 100000
set_option maxHeartbeats 20000000
set_option linter.unusedSimpArgs false
set_option linter.unusedVariables false
set_option linter.unusedSectionVars false
namespace Go.Proofs.YtmippldlhnajkaaGreatDoor
open Go Go.Vm
noncomputable def kindF (a:List Typ)(s:Str):Int:=((Option.bind (α:=Bool) (
 cond (eqB (List.length a:Int) 0) (
 some (eqS s [73,110,116])) (
 some false)) fun x559 =>
 cond x559 (
 some 1) (
 Option.bind (α:=Bool) (
 cond (eqB (List.length a:Int) 0) (
 some (eqS s [66,111,111,108])) (
 some false)) fun x560 =>
 cond x560 (
 some 2) (
 Option.bind (α:=Bool) (
 cond (eqB (List.length a:Int) 0) (
 some (eqS s [84,101,120,116])) (
 some false)) fun x561 =>
 cond x561 (
 some 3) (
 Option.bind (α:=Bool) (
 cond (eqB (List.length a:Int) 0) (
 some (eqS s [85,110,105,116])) (
 some false)) fun x562 =>
 cond x562 (
 some 4) (
 Option.bind (α:=Bool) (
 cond (eqB (List.length a:Int) 1) (
 some (eqS s [65,114,114,97,121])) (
 some false)) fun x563 =>
 cond x563 (
 some 5) (
 Option.bind (α:=Bool) (
 cond (eqB (List.length a:Int) 1) (
 some (eqS s [87,101,97,107])) (
 some false)) fun x564 =>
 cond x564 (
 some 11) (
 some 6))))))):Option Int).getD 0
theorem c2J (a:List Typ)(s:Str):∃q:Int,((Option.bind (α:=Bool) (
 cond (eqB (List.length a:Int) 0) (
 some (eqS s [73,110,116])) (
 some false)) fun x559 =>
 cond x559 (
 some 1) (
 Option.bind (α:=Bool) (
 cond (eqB (List.length a:Int) 0) (
 some (eqS s [66,111,111,108])) (
 some false)) fun x560 =>
 cond x560 (
 some 2) (
 Option.bind (α:=Bool) (
 cond (eqB (List.length a:Int) 0) (
 some (eqS s [84,101,120,116])) (
 some false)) fun x561 =>
 cond x561 (
 some 3) (
 Option.bind (α:=Bool) (
 cond (eqB (List.length a:Int) 0) (
 some (eqS s [85,110,105,116])) (
 some false)) fun x562 =>
 cond x562 (
 some 4) (
 Option.bind (α:=Bool) (
 cond (eqB (List.length a:Int) 1) (
 some (eqS s [65,114,114,97,121])) (
 some false)) fun x563 =>
 cond x563 (
 some 5) (
 Option.bind (α:=Bool) (
 cond (eqB (List.length a:Int) 1) (
 some (eqS s [87,101,97,107])) (
 some false)) fun x564 =>
 cond x564 (
 some 11) (
 some 6))))))):Option Int)=some q/\q≠8:=by
 cases eqB (List.length a:Int) 0<;>cases eqB (List.length a:Int) 1<;>cases eqS s [73,110,116]<;>cases eqS s [66,111,111,108]<;>cases eqS s [84,101,120,116]<;>cases eqS s [85,110,105,116]<;>cases eqS s [65,114,114,97,121]<;>cases eqS s [87,101,97,107]<;>exact⟨_,rfl,by decide⟩
theorem kind_eq (a:List Typ)(s:Str):((Option.bind (α:=Bool) (
 cond (eqB (List.length a:Int) 0) (
 some (eqS s [73,110,116])) (
 some false)) fun x559 =>
 cond x559 (
 some 1) (
 Option.bind (α:=Bool) (
 cond (eqB (List.length a:Int) 0) (
 some (eqS s [66,111,111,108])) (
 some false)) fun x560 =>
 cond x560 (
 some 2) (
 Option.bind (α:=Bool) (
 cond (eqB (List.length a:Int) 0) (
 some (eqS s [84,101,120,116])) (
 some false)) fun x561 =>
 cond x561 (
 some 3) (
 Option.bind (α:=Bool) (
 cond (eqB (List.length a:Int) 0) (
 some (eqS s [85,110,105,116])) (
 some false)) fun x562 =>
 cond x562 (
 some 4) (
 Option.bind (α:=Bool) (
 cond (eqB (List.length a:Int) 1) (
 some (eqS s [65,114,114,97,121])) (
 some false)) fun x563 =>
 cond x563 (
 some 5) (
 Option.bind (α:=Bool) (
 cond (eqB (List.length a:Int) 1) (
 some (eqS s [87,101,97,107])) (
 some false)) fun x564 =>
 cond x564 (
 some 11) (
 some 6))))))):Option Int)=some (kindF a s):=by
 obtain⟨q,h,_⟩:=c2J a s
 unfold kindF
 rw[h];rfl
theorem kindF_ne (a:List Typ)(s:Str):kindF a s≠8:=by
 obtain⟨q,h,hq⟩:=c2J a s
 unfold kindF
 rw[h];exact hq
section
variable {l:List Tok} {size:Int} (C:Cx l)
include C
theorem c0m {n k0:Nat}{Φ:p8}{pl:Int}(pt1:∀{pl:Int} {k:Nat},k<=l.length->k0<=k->S1 (QT l k) (Φ.K5 l size k pl)):∀(m k:Nat) (xs:List Typ),k0<=k->k<=l.length->l.length+1<m+k->szT xs+k0<=k ->(∀x∈xs,GT x)->S1 (QTs l k0) (bS (a0S n Φ size l pl m xs true (k:Int)) (fun(l508,at509)=>some ((l508,true,at509))) some)
 | m+2,k,xs,h1,h2,h3,h4,h5=>by
  have hl:=C.hl
  have hx:=a9e xs
  have ih:=fun{k:Nat} {xs:List Typ}=>c0m (n:=n) (k0:=k0) (Φ:=Φ) (pl:=pl) pt1 (m+1) k xs
  have fin:∀(zs:List Typ) (q:Int),a0S n Φ size l pl (m+1) zs false q=some (.brk (zs,q)):=fun _ _=>rfl
  rw[a0S.eq_2]
  exact one
 | 0,_,_,_,_,_,_,_=>by omega
 | 1,_,_,_,_,_,_,_=>by omega
theorem typ_lp {n k0:Nat}{Φ:p8}{pl:Int}:∀(m k:Nat) (t:Typ),k0<=k->k<=l.length->l.length+1<m+k->t.sz+k0<=k->GT t->S1 (QT l k0) ((a0p n Φ size l pl m true (k:Int) t).bind fun(ok595,at596,n597)=>some ((n597,ok595,at596)))
 | m+2,k,t,h1,h2,h3,h4,h5=>by
  have hl:=C.hl
  have ih:=fun{k:Nat} {t:Typ}=>typ_lp (n:=n) (k0:=k0) (Φ:=Φ) (pl:=pl) (m+1) k t
  have fin:∀(q:Int) (t:Typ),a0p n Φ size l pl (m+1) false q t=some (false,q,t):=fun _ _=>rfl
  rw[a0p.eq_2]
  exact one
 | 0,_,_,_,_,_,_,_=>by omega
 | 1,_,_,_,_,_,_,_=>by omega
theorem typ_no {n:Nat}{Φ:p8}{pl:Int}{m:Nat}(hm:1<=m)(q:Int)(t:Typ):a0p n Φ size l pl m false q t=some (false,q,t):=by
 obtain⟨m,rfl⟩:∃j,m=j+1:=⟨m-1,by omega⟩
 rfl
def HT (l:List Tok)(size:Int)(n:Nat):Prop:=(∀{pl:Int} {k:Nat},k<=l.length->30000+40*(l.length-k)+10<=n->S1 (QT l k) ((p8.fs n).K5 l size k pl))/\(∀{pl:Int} {k:Nat},k<=l.length->30000+40*(l.length-k)+15<=n->S1 (QTs l k) ((p8.fs n).P8 l size k pl))/\(∀{pl:Int} {k:Nat},k<=l.length->30000+40*(l.length-k)+5<=n->S1 (QT l k) ((p8.fs n).P7 l size k pl))
theorem ht:∀n,HT l size n
 | 0=>⟨fun _ h=>by omega,fun _ h=>by omega,fun _ h=>by omega⟩
 | n+1=>by
  have hl:=C.hl
  obtain⟨pt1,pt3,pt2⟩:=ht n
  refine⟨fun{pl k} hk hn=>?_,fun{pl k} hk hn=>?_,fun{pl k} hk hn=>?_⟩
  ·show S1 (QT l k) (a1X n (p8.fs n) l size k pl)
   have lp1:=fun{k0 k:Nat} {t:Typ} h1 h2 h3 h4=>typ_lp C (size:=size) (n:=n) (k0:=k0) (Φ:=p8.fs n) (pl:=pl) n k t h1 h2 (by omega) h3 h4
   have fin:=fun q t=>typ_no C (size:=size) (n:=n) (Φ:=p8.fs n) (pl:=pl) (m:=n) (by omega) q t
   unfold a1X
   exact one
  ·show S1 (QTs l k) (a1d n (p8.fs n) l size k pl)
   have lp1:=fun{k':Nat} {xs:List Typ} h1 h2 h4 h5=>c0m C (size:=size) (n:=n) (k0:=k) (Φ:=p8.fs n) (pl:=pl) (fun h1 h2=>pt1 h1 (by omega)) n k' xs h1 h2 (by omega) h4 h5
   unfold a1d
   exact one
  ·show S1 (QT l k) (a1y n (p8.fs n) l size k pl)
   unfold a1y
   simp only[kind_eq]
   have kn:=kindF_ne
   exact one
theorem b6X {n k0:Nat}{pl:Int}{m0:List Nod}(hm:m0.length<=30000)(hn:200000<=n):∀(m k:Nat) (xs zs:List Nod),k0<=k->k<=l.length->l.length+1<m+k->zs=m0++xs->szN xs+4*k0<=4*k ->(∀x∈xs,G 4 x)->S1 (QM l (G 4) m0 k0) (bS (a0C n size l pl m zs true (k:Int)) (fun(l523,b8K)=>(o8 [41] l size b8K pl).bind fun(r24,at25)=>some ((l523,r24,at25))) some)
 | m+2,k,xs,_,h1,h2,h3,rfl,h4,h5=>by
  have hl:=C.hl
  have hx:=V3 xs
  have ih:=fun{k:Nat} {xs zs:List Nod} h1 h2 h3 h4 h5 h6=>b6X (n:=n) (k0:=k0) (pl:=pl) (m0:=m0) hm hn (m+1) k xs zs h1 h2 h3 h4 h5 h6
  have pt1:=fun{pl:Int} {k:Nat} (h1:k<=l.length) (_:True)=>(ht C (size:=size) n).1 (pl:=pl) h1 (by omega)
  have fin:∀(zs:List Nod) (q:Int),a0C n size l pl (m+1) zs false q=some (.brk (zs,q)):=fun _ _=>rfl
  rw[a0C.eq_2]
  exact one
 | 0,_,_,_,_,_,_,_,_,_=>by omega
 | 1,_,_,_,_,_,_,_,_,_=>by omega
theorem params1 {n k:Nat}{pl:Int}{m0:List Nod}(hm:m0.length<=30000)(hk:k<=l.length)(hn:200000<=n):S1 (QM l (G 4) m0 k) (a1A n m0 l size (k:Int) pl):=by
 have hl:=C.hl
 have lp1:=fun{k':Nat} h1 h2 (_:True) (_:True)=>b6X C (size:=size) (n:=n) (k0:=k) (pl:=pl) (m0:=m0) hm hn n k' [] m0 h1 h2 (by omega) (List.append_nil _).symm (by simp only[b4C];omega) all_nil
 unfold a1A
 exact one
theorem c2L {n k0:Nat}{pl a:Int}:∀(m k:Nat) (op:Int) (s:Str) (xs:List Nod),k0<=k->k<=l.length->l.length+1<m+k->szN xs+2+4*k0<=4*k->G 0 ⟨op,s,0,zT,[],xs,a⟩->S1 (QP l (G 0) k0) ((a0o n size l pl a m true (k:Int) op s xs).bind fun(ok524,b3B,op526,s527,l528)=>some (((⟨op526,s527,0,(⟨0,[],0,[]⟩:Typ),[],l528,a⟩:Nod),ok524,b3B)))
 | m+2,k,op,s,xs,h1,h2,h3,h4,h5=>by
  have hl:=C.hl
  have ih:=fun{k:Nat} {op:Int} {s:Str} {xs:List Nod}=>c2L (n:=n) (k0:=k0) (pl:=pl) (a:=a) (m+1) k op s xs
  have fin:∀(q:Int) (o:Int) (u:Str) (v:List Nod),a0o n size l pl a (m+1) false q o u v=some (false,q,o,u,v):=fun _ _ _ _=>rfl
  rw[a0o.eq_2]
  exact one
 | 0,_,_,_,_,_,_,_,_,_=>by omega
 | 1,_,_,_,_,_,_,_,_,_=>by omega
theorem lent_no {n m:Nat}{pl a:Int}(hm:1<=m)(q o:Int)(u:Str)(v:List Nod):a0o n size l pl a m false q o u v=some (false,q,o,u,v):=by
 obtain⟨m,rfl⟩:∃j,m=j+1:=⟨m-1,by omega⟩
 rfl
theorem lent1 {n k:Nat}{pl:Int}(hk:k<=l.length)(hn:30000<=n):S1 (QP l (G 0) k) (a2s n l size (k:Int) pl):=by
 have hl:=C.hl
 have lp1:=fun{a:Int} {k':Nat} {op:Int} {s:Str} {xs:List Nod} h1 h2 h3 h4=>c2L C (size:=size) (n:=n) (k0:=k) (pl:=pl) (a:=a) n k' op s xs h1 h2 (by omega) h3 h4
 have fin:=fun a q o u v=>lent_no C (size:=size) (n:=n) (pl:=pl) (a:=a) (m:=n) (by omega) q o u v
 unfold a2s
 exact one
theorem pat_lp {n k0:Nat}{pl a:Int}{s:Str}{Φ:E5}(hs:s.length<=20000)(pp1:∀{pl:Int} {k:Nat},k<=l.length->k0<k->S1 (QP l (G 3) k) (Φ.K3 l size k pl)):∀(m k:Nat) (xs:List Nod),k0<k->k<=l.length->l.length+1<m+k->szN xs+2+4*k0<=4*k ->(∀x∈xs,G 3 x)->S1 (QP l (G 3) k0) (bS (a0c n Φ size l pl s a m xs true (k:Int)) (fun(l513,b2c)=>(o8 [41] l size b2c pl).bind fun(r39,at40)=>some (((⟨45,s,0,(⟨0,[],0,[]⟩:Typ),[],l513,a⟩:Nod),r39,at40))) some)
 | m+2,k,xs,h1,h2,h3,h4,h5=>by
  have hl:=C.hl
  have hx:=V3 xs
  have ih:=fun{k:Nat} {xs:List Nod}=>pat_lp (n:=n) (k0:=k0) (pl:=pl) (a:=a) (s:=s) (Φ:=Φ) hs pp1 (m+1) k xs
  have fin:∀(zs:List Nod) (q:Int),a0c n Φ size l pl s a (m+1) zs false q=some (.brk (zs,q)):=fun _ _=>rfl
  rw[a0c.eq_2]
  exact one
 | 0,_,_,_,_,_,_,_=>by omega
 | 1,_,_,_,_,_,_,_=>by omega
theorem pat1:∀(n:Nat) {pl:Int} {k:Nat},k<=l.length->30000+40*(l.length-k)<=n->S1 (QP l (G 3) k) ((E5.fs n).K3 l size k pl)
 | 0,_,_,_,h=>by omega
 | n+1,pl,k,hk,hn=>by
  have hl:=C.hl
  show S1 (QP l (G 3) k) (a0D n (E5.fs n) l size k pl)
  have lp1:=fun{a:Int} {s:Str} {k':Nat} {xs:List Nod} hs h1 h2 h4 h5=>pat_lp C (size:=size) (n:=n) (k0:=k) (pl:=pl) (a:=a) (s:=s) (Φ:=E5.fs n) hs (fun h1 h2=>pat1 n h1 (by omega)) n k' xs h1 h2 (by omega) h4 h5
  unfold a0D
  exact one
end
end Go.Proofs.YtmippldlhnajkaaGreatDoor
namespace Go.Proofs.YtmippldlhnajkaaGreatDoor
open Go Go.Vm
theorem b9U {n:Nat}:∀(m:Nat) (x:Nod),x.sz<m -> ∃y,a3E n m x=some y
 | 0,x,h=>by omega
 | m+1,x,h=>by
  rw[a3E.eq_2]
  rcases Classical.em (x.op=55/\(x.l.length:Int)=1)with⟨h1,h2⟩|h1
  ·rw[a3T h1,a3T h2]
   simp only[NF]
   rcases hx:x.l with _ |⟨y,r⟩
   ·rw[hx]at h2;simp at h2
   ·simp only[LIT,NF]
    have h3:=x.a7y
    rw[hx,a4j]at h3
    exact b9U m y (by omega)
  ·have e:Option.bind (α:=Bool) (cond (eqB x.op 55) (some (eqB (List.length x.l:Int) 1)) (some false)) (fun x504=>cond x504 ((idx' x.l 0).bind fun x2=>a3E n m x2) (some x))=some x:=by
    rcases Classical.em (x.op=55)with h2|h2
    ·rw[a3T h2,a0J (fun h3=>h1 ⟨h2,h3⟩)];rfl
    ·rw[a0J h2];rfl
   rw[e]
   exact⟨_,rfl⟩
structure HE (l:List Tok)(size:Int)(n:Nat):Prop where
 f_expr:∀{pl:Int} {k:Nat},k<=l.length->200000+40*(l.length-k)+22<=n->S1 (QN l (G 0) k) ((d9.fs n).E8 l size k pl)
 f_unary:∀{pl:Int} {k:Nat},k<=l.length->200000+40*(l.length-k)+13<=n->S1 (QN l (G 0) k) ((d9.fs n).O1 l size k pl)
 f_postfix:∀{pl:Int} {k:Nat},k<=l.length->200000+40*(l.length-k)+11<=n->S1 (QN l (G 0) k) ((d9.fs n).O9 l size k pl)
 f_atom:∀{pl:Int} {k:Nat},k<=l.length->200000+40*(l.length-k)+10<=n->S1 (QN l (G 0) k) ((d9.fs n).U8 l size k pl)
 f_interpolated:∀{pl:Int} {k:Nat},isK l 5 k=true->k<=l.length->200000+40*(l.length-k)+9<=n->S1 (QN l (G 0) k) ((d9.fs n).J9 l size k pl)
 f_closure:∀{pl:Int} {k:Nat},k<=l.length->200000+40*(l.length-k)+9<=n->S1 (QN l (G 0) k) ((d9.fs n).O8 l size k pl)
 f_path:∀{pl:Int} {k:Nat},k<=l.length->200000+40*(l.length-k)+9<=n->S1 (QN l (G 0) k) ((d9.fs n).U9 l size k pl)
 f_statement:∀{pl:Int} {k:Nat},k<=l.length->200000+40*(l.length-k)+30<=n->S1 (QN l (G 1) k) ((d9.fs n).L6 l size k pl)
 f_block:∀{pl:Int} {k:Nat},k<=l.length->200000+40*(l.length-k)+34<=n->S1 (QN l (G 2) k) ((d9.fs n).I5 l size k pl)
 f_local:∀{pl:Int} {k:Nat},k<=l.length->200000+40*(l.length-k)+26<=n->S1 (QN l (G 1) k) ((d9.fs n).R9 l size k pl)
 f_simple:∀{pl:Int} {k:Nat},k<=l.length->200000+40*(l.length-k)+26<=n->S1 (QN l (G 1) k) ((d9.fs n).Q9 l size k pl)
 f_cond:∀{pl:Int} {k:Nat},isT l 9 [105,102] k=true->200000+40*(l.length-k)+28<=n->S1 (QN l (fun x=>G 1 x/\x.op=24) k) ((d9.fs n).J7 l size k pl)
 f_level:∀{pl:Int} {k j:Nat},k<=l.length->j<=5->200000+40*(l.length-k)+20<=n+j->S1 (QN l (G 0) k) ((d9.fs n).M5 (j:Int) l size k pl)
 f_args:∀{pl:Int} {k:Nat} {m0:List Nod},m0.length<=30000->k<=l.length->200000+40*(l.length-k)+9<=n->S1 (QA l (G 6) m0 k) ((d9.fs n).J8 m0 l size k pl)
 f_stmts:∀{pl:Int} {k:Nat},k<=l.length->200000+40*(l.length-k)+32<=n->S1 (QL l (G 1) [] k) ((d9.fs n).K4 l size k pl)
 f_mat:∀{a pl:Int} {k:Nat},k<=l.length->200000+40*(l.length-k)+26<=n->S1 (QX l k) ((d9.fs n).S9 a l size k pl)
section
variable {l:List Tok} {size:Int} (C:Cx l)
include C
theorem t_place {A:Type}{Q:A->Prop}{n:Nat}{x:Nod}{f:Bool->Option A}(h:x.sz<n)(h1:∀b,S1 Q (f b)):S1 Q ((a5N n x).bind f):=by
 obtain⟨y,e⟩:=b9U (n:=n) n x h
 unfold a5N
 rw[e]
 exact h1 _
def okop (l:List Tok)(k:Nat)(s:Str):Prop:=isT l 8 s k=true/\s.length<=2 /\ ∃a r,s=a::r
theorem row_ok {j:Nat}(hj:j<5):∃row:List Str,idx' ([[[124,124]],[[38,38]],[[61,61],[33,61],[60],[60,61],[62],[62,61]],[[43],[45]],[[42],[47],[37]]]:List (List Str)) (j:Int)=some row/\row.length<=10 /\ ∀s∈row,s.length<=2 /\ ∃a r,s=a::r:=by
 have h:j<([[[124,124]],[[38,38]],[[61,61],[33,61],[60],[60,61],[62],[62,61]],[[43],[45]],[[42],[47],[37]]]:List (List Str)).length:=hj
 refine⟨_,Y3 h,?_⟩
 match j,hj with
 | 0,_=>exact⟨by simp,fun s hs=>by simp at hs;subst hs;exact⟨by decide,_,_,rfl⟩⟩
 | 1,_=>exact⟨by simp,fun s hs=>by simp at hs;subst hs;exact⟨by decide,_,_,rfl⟩⟩
 | 2,_=>exact⟨by simp,fun s hs=>by simp at hs;rcases hs with rfl|rfl|rfl|rfl|rfl|rfl<;>exact⟨by decide,_,_,rfl⟩⟩
 | 3,_=>exact⟨by simp,fun s hs=>by simp at hs;rcases hs with rfl|rfl<;>exact⟨by decide,_,_,rfl⟩⟩
 | 4,_=>exact⟨by simp,fun s hs=>by simp at hs;rcases hs with rfl|rfl|rfl<;>exact⟨by decide,_,_,rfl⟩⟩
theorem c1y {n k:Nat}{Φ:d9}{q pl:Int}{x:Nod}{nn:Int}{row:List Str}(hr:idx' ([[[124,124]],[[38,38]],[[61,61],[33,61],[60],[60,61],[62],[62,61]],[[43],[45]],[[42],[47],[37]]]:List (List Str)) q=some row)(hL:row.length<=10)(hR:∀s∈row,s.length<=2 /\ ∃a r,s=a::r)(hk:k<=l.length):∀(m i:Nat) (op:Str),i<=row.length->row.length<m+i ->(op=[]∨okop l k op) -> ∃op',a1K n Φ size q l m nn op i k pl x=some (nn,op',(k:Int),pl,x)/\(op'=[]∨okop l k op')
 | 0,i,op,h1,h2,h3=>by omega
 | m+1,i,op,h1,h2,h3=>by
  rw[a1K.eq_2,hr]
  simp only[NF]
  rcases Nat.lt_or_ge i row.length with h|h
  ·obtain⟨h4,a,r,h5⟩:=hR _ (List.getElem_mem h)
   rw[Z7 (by omega),Y3 h]
   simp only[NF,h5,b2n C.hl hk size pl 8 (a::r),P5 (show i<=1000000000000 by omega)]
   cases hb:isT l 8 (a::r) k
   ·simp only[NF]
    exact c1y hr hL hR hk m (i+1) op (by omega) (by omega) h3
   ·simp only[NF]
    exact c1y hr hL hR hk m (i+1) (a::r) (by omega) (by omega) (.inr ⟨hb,by rw[<-h5];exact h4,a,r,rfl⟩)
  ·rw[Y5 (by omega)]
   exact⟨op,rfl,h3⟩
theorem b9k {n k0 j:Nat}(hj:j<5){Φ:d9}(hn:200000<=n)(pn1:∀{pl:Int} {k:Nat},k<=l.length->k0<k->S1 (QN l (G 0) k) (Φ.M5 ((j+1:Nat):Int) l size k pl)):∀(m k:Nat) (nn pl:Int) (x:Nod),k0<=k->k<=l.length->l.length+1<m+k->x.sz+4*k0<=4*k->G 0 x->S1 (QN l (G 0) k0) (bS (U2 n Φ size (j:Int) l m true nn k pl x) (fun(ok647,at648,b5F,n650)=>some ((n650,ok647,at648,b5F))) some)
 | m+2,k,nn,pl,x,h1,h2,h3,h4,h5=>by
  have hl:=C.hl
  have hz:=x.a7y
  have ih:=fun{k:Nat} {nn pl:Int} {x:Nod}=>b9k (k0:=k0) hj (Φ:=Φ) hn pn1 (m+1) k nn pl x
  have fin:∀(b q r:Int) (x:Nod),U2 n Φ size (j:Int) l (m+1) false b q r x=some (.brk (false,q,r,x)):=fun _ _ _ _=>rfl
  obtain⟨row,r1,r2,r3⟩:=row_ok C hj
  obtain⟨op',e,h6⟩:=c1y C (size:=size) (n:=n) (Φ:=Φ) (pl:=pl) (x:=x) (nn:=nn) r1 r2 r3 h2 n 0 [] (Nat.zero_le _) (by omega) (.inl rfl)
  simp only[Int.natCast_zero]at e
  rw[U2.eq_2]
  simp only[NF,e,P5 (show j<=1000000000000 by omega)]
  rcases h6 with rfl |⟨h6,h7,a,r,rfl⟩
  ·skip
   simp only[a90,NF]
   exact one
  ·have h8:List.length (a::r)<=20000:=by omega
   simp only[eqS_cons,NF]
   exact one
 | 0,_,_,_,_,_,_,_,_,_=>by omega
 | 1,_,_,_,_,_,_,_,_,_=>by omega
end
end Go.Proofs.YtmippldlhnajkaaGreatDoor
