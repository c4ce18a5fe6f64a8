/- Texts of ParseValid, joined. -/
import Derived.Test.YtimgnjbjbdgmaaaGreatDoorParseValidJ18
set_option maxRecDepth 100000
set_option maxHeartbeats 20000000
set_option linter.all false
namespace Go.Proofs.YtimgnjbjbdgmaaaGreatDoor
open Go Go.Vm
variable {k0:Nat}
section
variable {V:Int->Str->Prop} {l:List Tok} {size p0:Int} (C:Cx V l)
include C
@[reducible] def o5 (l:List Tok) (k:Nat) (P1:List Nod->Prop) (p0:Int) (c:List Nod×Int->List Nod×Bool×Int×Int->Prop):Prop:=∀{x:List Nod} {q:Nat},k<=q->q<=l.length->szN x+4*k<=4*q->x.length<=4*q->P1 x->c (x,(q:Int)) (x,true,(q:Int),p0)
@[reducible] def HN (V:Int->Str->Prop) (l:List Tok) (size p0:Int) (n r:Nat) (P:Nod->Prop) (F:j5->List Tok->Int->Int->Option (Rs (Nod×Int) (q9×Int))) (F':j4->List Tok->Int->Int->Int->Option (Nod×Bool×Int×Int)):Prop:=∀{n' k:Nat},k<=l.length->200000+40*(l.length-k)+r<=n->200000+40*(l.length-k)+r<=n'->SP (o4 l k P p0) (fE (Z:=Nod) l k) (F (j5.fs n) l k size) (F' (j4.fs n') l size k p0)
def LVs:List R4:=[(⟨[[124,124]],false⟩:R4),(⟨[[38,38]],false⟩:R4),(⟨[[61,61],[33,61],[60],[60,61],[62],[62,61]],true⟩:R4),(⟨[[43],[45]],false⟩:R4),(⟨[[42],[47],[37]],false⟩:R4)]
structure HE (V:Int->Str->Prop)(l:List Tok)(size p0:Int)(n:Nat):Prop where
 f_block:HN V l size p0 n 34 (G V 2) j5.N7 j4.K9
 f_statement:HN V l size p0 n 30 (G V 1) j5.a0T j4.a0W
 f_conditional:∀{n' k:Nat},isT l 9 [105,102] k=true->k<=l.length->200000+40*(l.length-k)+28<=n->200000+40*(l.length-k)+28<=n'->SP (o4 l k (G V 19) p0) (fE (Z:=Nod) l k) ((j5.fs n).Y0 l k size) ((j4.fs n').Y2 l size k p0)
 f_local:∀{n' k:Nat},isT l 9 [108,101,116] k=true∨isT l 9 [118,97,114] k=true->k<=l.length->200000+40*(l.length-k)+26<=n->200000+40*(l.length-k)+26<=n'->SP (o4 l k (G V 1) p0) (fE (Z:=Nod) l k) ((j5.fs n).a2t l k size) ((j4.fs n').a2x l size k p0)
 f_expr:HN V l size p0 n 20 (G V 0) j5.M4 j4.M6
 f_unary:HN V l size p0 n 13 (G V 0) j5.U6 j4.a0p
 f_postfix:HN V l size p0 n 11 (G V 0) j5.a1v j4.a1G
 f_atom:∀{n' k:Nat},isK l 1 k=false->k<=l.length->200000+40*(l.length-k)+10<=n->200000+40*(l.length-k)+10<=n'->SP (o4 l k (G V 0) p0) (fE (Z:=Nod) l k) ((j5.fs n).a11 l k size) ((j4.fs n').a14 l size k p0)
 f_interp:∀{n' k:Nat},isK l 5 k=true->k<=l.length->200000+40*(l.length-k)+9<=n->200000+40*(l.length-k)+9<=n'->SP (o4 l k (G V 0) p0) (fE (Z:=Nod) l k) ((j5.fs n).a1S l k size) ((j4.fs n').a0c l size k p0)
 f_closure:∀{n' k:Nat},isT l 8 [123] k=true->k<=l.length->200000+40*(l.length-k)+9<=n->200000+40*(l.length-k)+9<=n'->SP (o4 l k (G V 0) p0) (fE (Z:=Nod) l k) ((j5.fs n).a1s l k size) ((j4.fs n').a1D l size k p0)
 f_args:∀{n' k:Nat} {m0:List Nod},k<=l.length->m0.length<=40000->200000+40*(l.length-k)+9<=n->200000+40*(l.length-k)+9<=n'->SP (fun c=>∀{x z:List Nod} {q:Nat},z=m0++x->k+2<=q->q<=l.length->szN x+8+4*k<=4*q->x.length<=4*q ->(∀y∈x,G V 6 y)->c (x,(q:Int)) (z,true,(q:Int),p0,z)) (fun d=>∀{e:q9} {q:Nat} {z z':List Nod} {pl:Int},k<=q->q<=l.length->e.fault.code≠0->d (e,(q:Int)) (z,false,(q:Int),pl,z')) ((j5.fs n).a0f l k size) ((j4.fs n').a0i m0 l size k p0)
 f_lev:∀{n' j k:Nat},j<=5->k<=l.length->200000+40*(l.length-k)+19<=n->200000+40*(l.length-k)+19<=n' -> ∀(A B:Type) (Q:A->B->Prop) (f:Nod×Int->Option A) (g:q9×Int->Option A) (h:Nod×Bool×Int×Int->Option B),o4 l k (G V 0) p0 (fun x y=>S2 Q (f x) (h y))->fE (Z:=Nod) l k (fun e y=>S2 Q (g e) (h y))->S2 Q (D6 ((j5.fs n).U6 l k size) (fun x=>D6 ((j5.fs n).a0R x.1 (LVs.drop j) l x.2 size) f g) g) (((j4.fs n').Y7 (j:Int) l size k p0).bind h)
 f_stmts:∀{n' k:Nat},k<=l.length->200000+40*(l.length-k)+32<=n->200000+40*(l.length-k)+32<=n'->SP (o5 l k (∀x ∈ ·,G V 1 x) p0) (fE (Z:=List Nod) l k) ((j5.fs n).Z9 l k size) ((j4.fs n').a0a l size k p0)
 f_match:∀{n' k:Nat},isT l 9 [109,97,116,99,104] k=true->k<=l.length->200000+40*(l.length-k)+26<=n->200000+40*(l.length-k)+26<=n'->SP (fun c=>∀{x:List Nod} {q:Nat},k+1<q->q<=l.length->szN x+2+4*k<=4*q->MTX V x->c (⟨26,[],0,zT,[],x,a2z l size k⟩,(q:Int)) (x,true,(q:Int),p0)) (fE (Z:=List Nod) l k) ((j5.fs n).a2u l k size) ((j4.fs n').a2y (a2z l size k) l size ((k+1:Nat):Int) p0)
 f_one:∀{n' k:Nat} {op:Int},k<l.length->200000+40*(l.length-k)+26<=n->200000+40*(l.length-k)+26<=n'->SP (fun c=>∀{x:Nod} {q:Nat},k+1<q->q<=l.length->x.sz+4*(k+1)<=4*q->G V 2 x->c ([x],a2z l size k,(q:Int)) (x,true,(q:Int),p0)) (fE (Z:=Nod) l k) ((j5.fs n).a2B op l k size) ((j4.fs n').K9 l size ((k+1:Nat):Int) p0)
omit C in
theorem inv55 {x:Nod}(h:G V 0 x)(ho:x.op=55):∃s y a,x =⟨55,s,0,zT,[],[y],a⟩/\G V 0 y:=by
 cases h with
 | field hs hx=>exact⟨_,_,_,rfl,hx⟩
 | un hu hx =>
  rcases hu with rfl|rfl<;>simp at ho
 | _=>simp at ho
omit C in
theorem c2g {n n':Nat}:∀(m m':Nat) (x:Nod),G V 0 x->x.sz<m->x.sz<m' -> ∃z,a8p n m x=some z/\a8w n' m' x=some z/\(z.op=54->PLC x)
 | 0,m',x,_,h,_=>zOm
 | m+1,m',x,hG,hs,hs'=>by
  obtain⟨m',rfl⟩:∃q,m'=q+1:=⟨m'-1,zOm⟩
  rw[a8p.eq_2,a8w.eq_2];by_cases h:x.op=55
  ·obtain⟨s,z,a,rfl,hz⟩:=inv55 hG h;rw[a5O (show(55:Int)=55 from rfl),cond_true,cond_true,show idx' [z] 0=some z from a1h (l:=[z]) (i:=0) Nat.zero_lt_one,show eqB ((([z]:List Nod).length:Nat):Int) 1=true from a5O rfl];rw[nsz,b1G]at hs hs';obtain⟨p,e1,e2,e4⟩:=c2g (n:=n) (n':=n') m m' z hz zOm zOm;exact⟨p,e1,e2,fun h=>.fld (e4 h)⟩
  rw[a5N h];exact⟨x,rfl,rfl,fun h=>.nm h⟩
omit C in
theorem t_place {A B:Type}{Q:A->B->Prop}{R:Option B}{n:Nat}{x:Nod}{f:Bool->Option A}(hn:x.sz<n)(hG:G V 0 x)(h1:PLC x ->(∀n',x.sz<n'->a5W n' x=some true)->S2 Q (f true) R)(h2:(∀n',x.sz<n'->a5W n' x=some false)->S2 Q (f false) R):S2 Q ((a9l n x).bind f) R:=by
 obtain⟨z,e1,-,e4⟩:=c2g (n:=n) (n':=n) n n x hG hn hn;have e3:∀n',x.sz<n'->a5W n' x=some (eqB z.op 54):=fun n' hn'=>by
  obtain⟨z',g1,g2,-⟩:=c2g (n:=n) (n':=n') n n' x hG hn hn';rw[e1]at g1;cases g1;unfold a5W;rw[g2];rfl
 unfold a9l;rw[e1];show S2 Q (f (eqB z.op 54)) R;cases hb:eqB z.op 54
 ·exact h2 fun n' hn'=>by rw[e3 n' hn',hb]
 exact h1 (e4 (by rw[a5M]at hb;exact of_decide_eq_true hb)) fun n' hn'=>by rw[e3 n' hn',hb]
omit C in
theorem u_place {A B:Type}{Q:A->B->Prop}{L:Option A}{n:Nat}{x:Nod}{b:Bool}{f:Bool->Option B}(h:∀n',x.sz<n'->a5W n' x=some b)(hn:x.sz<n)(g:S2 Q L (f b)):S2 Q L ((a5W n x).bind f):=by
 rw[h n hn];exact g
section
variable {n n':Nat} (H:HE V l size p0 n) {k:Nat} (hk:k<=l.length)
include H hk
theorem e_block (hn:200000+40*(l.length-k)+34<=n+1)(hn':200000+40*(l.length-k)+34<=n'+1):SP (o4 l k (G V 2) p0) (fE (Z:=Nod) l k) (a3X n (j5.fs n) l k size) (a4e n' (j4.fs n') l size k p0):=by
 unfold a3X a4e;exact two
theorem c7c (hn:200000+40*(l.length-k)+13<=n+1)(hn':200000+40*(l.length-k)+13<=n'+1):SP (o4 l k (G V 0) p0) (fE (Z:=Nod) l k) (a4b n (j5.fs n) l k size) (a4j n' (j4.fs n') l size k p0):=by
 unfold a4b a4j;exact two
theorem e_cond (hn:200000+40*(l.length-k)+28<=n+1)(hn':200000+40*(l.length-k)+28<=n'+1)(hi:isT l 9 [105,102] k=true):SP (o4 l k (G V 19) p0) (fE (Z:=Nod) l k) (a1t n (j5.fs n) l k size) (a1E n' (j4.fs n') l size k p0):=by
 unfold a1t a1E;exact two
theorem e_local (hn:200000+40*(l.length-k)+26<=n+1)(hn':200000+40*(l.length-k)+26<=n'+1)(hi:isT l 9 [108,101,116] k=true∨isT l 9 [118,97,114] k=true):SP (o4 l k (G V 1) p0) (fE (Z:=Nod) l k) (a3Z n (j5.fs n) l k size) (a4g n' (j4.fs n') l size k p0):=by
 unfold a3Z a4g;rcases hi with hi|hi
 ·exact two
 exact two
end
section
variable {n:Nat} (H:HE V l size p0 n)
include H
theorem stmts_l {n':Nat}(hn:200000+40*(l.length-k0)+30<=n)(hn':200000+40*(l.length-k0)+30<=n'):∀m,LP l m k0 (∀x ∈ ·,G V 1 x) [] (fun k P=>SL (R':=List Nod×Int) (fun c=>∀{x:List Nod} {q:Nat},k<=q->q<=l.length->szN x+4*k<=4*q->x.length<=4*q->P x->c (x,(q:Int)) (x,(q:Int),p0)) (fE (Z:=List Nod) l k)) (fun k xs=>a2T n (j5.fs n) size l m xs k) (fun m k zs=>a3e n' (j4.fs n') size l m zs k p0):=lpI fun m ih m' k xs h1 h2 h3 h3' h4 h5=>by
 simp only[a2T,a3e];exact two
theorem e_stmts {n' k:Nat}(hk:k<=l.length)(hn:200000+40*(l.length-k)+32<=n+1)(hn':200000+40*(l.length-k)+32<=n'+1):SP (o5 l k (∀x ∈ ·,G V 1 x) p0) (fE (Z:=List Nod) l k) (a1O n (j5.fs n) l k size) (a1P n' (j4.fs n') l size k p0):=by
 have lp1:=fun{m' k' xs zs}=>stmts_l C H (n':=n') (k0:=k) zOm zOm n m' k' xs zs;unfold a1O a1P;exact two
theorem match_l {n':Nat}(hn:200000+40*(l.length-k0)+14<=n)(hn':200000+40*(l.length-k0)+14<=n'):∀m,LP l m k0 (MTX V) [] (fun k P=>SL (R':=Nod×Int) (fun c=>∀{x:List Nod} {q:Nat},k<=q->q<=l.length->szN x+4*k<=4*q->x.length<=4*q->P x->c ((q:Int),x) (x,(q:Int),p0)) (fE (Z:=List Nod) l k)) (fun k xs=>a5x n (j5.fs n) size l m k xs) (fun m k zs=>a5A n' (j4.fs n') size l m zs k p0):=lpI fun m ih m' k xs h1 h2 h3 h3' h4 h5=>by
 simp only[a5x,a5A];exact two
theorem e_match {n' k:Nat}(hi:isT l 9 [109,97,116,99,104] k=true)(hk:k<=l.length)(hn:200000+40*(l.length-k)+26<=n+1)(hn':200000+40*(l.length-k)+26<=n'+1):SP (fun c=>∀{x:List Nod} {q:Nat},k+1<q->q<=l.length->szN x+2+4*k<=4*q->MTX V x->c (⟨26,[],0,zT,[],x,a2z l size k⟩,(q:Int)) (x,true,(q:Int),p0)) (fE (Z:=List Nod) l k) (a4a n (j5.fs n) l k size) (a4h n' (j4.fs n') (a2z l size k) l size ((k+1:Nat):Int) p0):=by
 have hb:=a8i hi;have lp1:=fun{m' k' xs zs}=>match_l C H (n':=n') (k0:=k+1) zOm zOm n m' k' xs zs;unfold a4a a4h;exact two
theorem c3e {n' k:Nat}(hk:k<=l.length)(hn:200000+40*(l.length-k)+30<=n+1)(hn':200000+40*(l.length-k)+30<=n'+2):SP (o4 l k (G V 1) p0) (fE (Z:=Nod) l k) (a2f n (j5.fs n) l k size) (a2i (n'+1) (j4.fs (n'+1)) l size k p0):=by
 have e1:(j4.fs (n'+1)).a10=a3D n' (j4.fs n'):=rfl;unfold a2f a2i;simp only[e1];unfold a3D;exact two
end
end
end Go.Proofs.YtimgnjbjbdgmaaaGreatDoor
