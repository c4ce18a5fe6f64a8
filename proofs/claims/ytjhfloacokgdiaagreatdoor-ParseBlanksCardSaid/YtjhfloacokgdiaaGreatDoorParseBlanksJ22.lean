/- Texts of ParseBlanks, joined. -/
import Derived.Test.YtjhfloacokgdiaaGreatDoorParseBlanksJ21
set_option maxRecDepth 100000
set_option maxHeartbeats 20000000
set_option linter.unusedSimpArgs false
set_option linter.unusedVariables false
set_option linter.unusedSectionVars false
namespace Go.Proofs.YtjhfloacokgdiaaGreatDoor
open Go Go.Vm
section
variable {V:Int->Str->Prop} {l l':List Tok} {size size':Int} (C:Cx V l l')
include C
theorem b2X {n k:Nat}(hk:k<=l.length)(hn:400000<=n):SN l (G V 11) k (Q9 n l k size) (Q9 n l' k size'):=by
 have hl:=C.hl
 have pr1:=fun{k:Nat} (h1:k<=l.length)=>sign_r C (size:=size) (size':=size') (n:=n) h1 (by omega)
 have pr2:=fun{k:Nat} (h1:k<=l.length)=>b96 C (size:=size) (size':=size') (n:=n) h1 (by omega)
 intro A Q f f' g g' hok hpan
 unfold Q9
 exact two
theorem b4z {n:Nat}(hn:400000<=n):∀(m k:Nat) (xs ys:List Nod),k<=l.length->l.length<m+k->ers xs=ers ys->szN xs<=4*k->EXA V xs->LIsR l (EXA V) (szN xs) k (U3 n size l m k xs) (U3 n size' l' m k ys)
 | 0,_,_,_,_,_,_,_,_=>by omega
 | m+1,k,xs,ys,h2,h3,h4,h5,h6=>by
  have hl:=C.hl
  have hx:=a0P xs
  have hy:=a0S h4
  have ih:=fun{k:Nat} {xs ys:List Nod}=>b4z (n:=n) hn m k xs ys
  have pr1:=fun{k:Nat} (h1:k<=l.length)=>a9T C (size:=size) (size':=size') (n:=n) h1 (by omega)
  intro A Q f f' g g' hok hpan
  rw[U3.eq_2,U3.eq_2]
  exact two
theorem b2Q {n:Nat}(hn:400000<=n):∀(m k:Nat) (xs ys:List Nod),k<=l.length->l.length<m+k->ers xs=ers ys->szN xs<=4*k->EXX V xs->LIsR l (EXX V) (szN xs) k (R6 n size l m k xs) (R6 n size' l' m k ys)
 | 0,_,_,_,_,_,_,_,_=>by omega
 | m+1,k,xs,ys,h2,h3,h4,h5,h6=>by
  have hl:=C.hl
  have hx:=a0P xs
  have hy:=a0S h4
  have ih:=fun{k:Nat} {xs ys:List Nod}=>b2Q (n:=n) hn m k xs ys
  have pr1:=fun{k:Nat} (h1:k<=l.length)=>b2X C (size:=size) (size':=size') (n:=n) h1 (by omega)
  intro A Q f f' g g' hok hpan
  rw[R6.eq_2,R6.eq_2]
  exact two
theorem extend_r {n k:Nat}(hk:k<=l.length)(hn:400000<=n):SN l (G V 18) k (a0r n l k size) (a0r n l' k size'):=by
 have hl:=C.hl
 have pr1:=fun{k:Nat} (h1:k<=l.length)=>a9T C (size:=size) (size':=size') (n:=n) h1 (by omega)
 have pr2:=fun{k:Nat} (h1:k<=l.length)=>c05 C (size:=size) (size':=size') (n:=n) h1 (by omega)
 have lp1:=fun{k':Nat} {xs ys:List Nod} h2 h4 h5 h6=>b4z C (size:=size) (size':=size') (n:=n) hn n k' xs ys h2 (by omega) h4 h5 h6
 have lp2:=fun{k':Nat} {xs ys:List Nod} h2 h4 h5 h6=>b2Q C (size:=size) (size':=size') (n:=n) hn n k' xs ys h2 (by omega) h4 h5 h6
 intro A Q f f' g g' hok hpan
 unfold a0r
 exact two
theorem b4B {R0 n k0:Nat}(hn:400000<=n):∀(m k:Nat) (xs ys:List Nod),k0<=k->k<=l.length->l.length<m+k->ers xs=ers ys->szN xs+4*k0<=4*k ->(∀x∈xs,G V 13 x)->LLs l (fun z=>∀x∈z,G V 13 x) k0 (U4 n size l m xs k) (U4 n size' l' m ys k)
 | 0,_,_,_,_,_,_,_,_,_=>by omega
 | m+1,k,xs,ys,h1,h2,h3,h4,h5,h6=>by
  have hl:=C.hl
  have hx:=a0P xs
  have hy:=a0S h4
  have ih:=fun{k:Nat} {xs ys:List Nod}=>b4B (R0:=R0) (n:=n) (k0:=k0) hn m k xs ys
  have pr1:=fun{k:Nat} (h1:k<=l.length)=>a9T C (size:=size) (size':=size') (n:=n) h1 (by omega)
  intro A Q f f' g g' hok hpan
  rw[U4.eq_2,U4.eq_2]
  exact two
theorem fields_r {n k:Nat}(hk:k<=l.length)(hn:400000<=n):SL l (FDX V) k (V8 n l k size) (V8 n l' k size'):=by
 have hl:=C.hl
 have pr1:=fun{k:Nat} (h1:k<=l.length)=>b96 C (size:=size) (size':=size') (n:=n) h1 (by omega)
 have lp1:=fun{k':Nat} h1 h2=>b4B C (size:=size) (size':=size') (R0:=0) (n:=n) (k0:=k) hn n k' [] [] h1 h2 (by omega) rfl (by simp only[a6c];omega) all_nil
 intro A Q f f' g g' hok hpan
 unfold V8
 exact two
@[reducible] def LC11 (l:List Tok) (P:List Typ->Prop) (xs ys:List Nod) (c:Int) (k:Nat) {R:Type} (p r:Option (Lr (List Nod×Int×Int×List Typ) (Rs R (Int×Int)))):Prop:=∀(A:Type) (Q:A->A->Prop) (f f':List Nod×Int×Int×List Typ->Option A) (g g':Rs R (Int×Int)->Option A),(∀{t:List Typ} {q:Nat},k<=q->q<=l.length->szT t+k<=q->P t->S2 Q (f (xs,(q:Int),c,t)) (f' (ys,(q:Int),c,t))) ->(∀{e e':Int} {q:Nat},k<=q->q<=l.length->S2 Q (g (.pan (e,(q:Int)))) (g' (.pan (e',(q:Int)))))->S2 Q (bS p f g) (bS r f' g')
theorem b4t {n k0:Nat}{xs ys:List Nod}{c:Int}(hn:400000<=n):∀(m k:Nat) (t:List Typ),k0<=k->k<=l.length->l.length<m+k->szT t+k0<=k ->(∀x∈t,GT V false x)->LC11 l (fun z=>∀x∈z,GT V false x) xs ys c k0 (U1 n size l m xs k c t) (U1 n size' l' m ys k c t)
 | 0,_,_,_,_,_,_,_=>by omega
 | m+1,k,t,h1,h2,h3,h4,h5=>by
  have hl:=C.hl
  have hx:=a9p t
  have pr1:=fun{k:Nat} (h1:k<=l.length)=>a9T C (size:=size) (size':=size') (n:=n) h1 (by omega)
  have ih:=fun{k:Nat} {t:List Typ}=>b4t (n:=n) (k0:=k0) (xs:=xs) (ys:=ys) (c:=c) hn m k t
  intro A Q f f' g g' hok hpan
  rw[U1.eq_2,U1.eq_2]
  exact two
theorem b6U {R0 n k0:Nat}(hn:400000<=n):∀(m k:Nat) (xs ys:List Nod),k0<=k->k<=l.length->l.length<m+k->ers xs=ers ys->szN xs+4*k0<=4*k ->(∀x∈xs,G V 15 x)->LLi l (fun z=>∀x∈z,G V 15 x) k0 (X5 n size l m xs k) (X5 n size' l' m ys k)
 | 0,_,_,_,_,_,_,_,_,_=>by omega
 | m+1,k,xs,ys,h1,h2,h3,h4,h5,h6=>by
  have hl:=C.hl
  have hx:=a0P xs
  have hy:=a0S h4
  have ih:=fun{k:Nat} {xs ys:List Nod}=>b6U (R0:=R0) (n:=n) (k0:=k0) hn m k xs ys
  have pr1:=fun{k:Nat} (h1:k<=l.length)=>a9T C (size:=size) (size':=size') (n:=n) h1 (by omega)
  have lp1:=fun{k':Nat} {xs ys:List Nod} {c:Int} {t:List Typ} h1 h2 h4 h5=>b4t C (size:=size) (size':=size') (n:=n) (k0:=k) (xs:=xs) (ys:=ys) (c:=c) hn n k' t h1 h2 (by omega) h4 h5
  intro A Q f f' g g' hok hpan
  rw[X5.eq_2,X5.eq_2]
  exact two
theorem cases_r {n k:Nat}(hk:k<=l.length)(hn:400000<=n):SLi l (fun z=>∀x∈z,G V 15 x) k (a0I n l k size) (a0I n l' k size'):=by
 have hl:=C.hl
 have lp1:=fun{k':Nat} h1 h2=>b6U C (size:=size) (size':=size') (R0:=0) (n:=n) (k0:=k) hn n k' [] [] h1 h2 (by omega) rfl (by simp only[a6c];omega) all_nil
 intro A Q f f' g g' hok hpan
 unfold a0I
 exact two
theorem decl_r {n k:Nat}(hk:k<=l.length)(hn:400000<=n):SN l (G V 18) k (Q0 n l k size) (Q0 n l' k size'):=by
 have hl:=C.hl
 have pr1:=fun{k:Nat} (h1:k<=l.length)=>proto_r C (size:=size) (size':=size') (n:=n) h1 (by omega)
 have pr2:=fun{k:Nat} (h1:k<=l.length)=>extend_r C (size:=size) (size':=size') (n:=n) h1 (by omega)
 have pr3:=fun{k:Nat} (h1:k<=l.length)=>b2X C (size:=size) (size':=size') (n:=n) h1 (by omega)
 have pr4:=fun{k:Nat} (h1:k<=l.length)=>gens_r C (size:=size) (size':=size') (n:=n) h1 (by omega)
 have pr5:=fun{k:Nat} (h1:k<=l.length)=>fields_r C (size:=size) (size':=size') (n:=n) h1 (by omega)
 have pr6:=fun{k:Nat} (h1:k<=l.length)=>cases_r C (size:=size) (size':=size') (n:=n) h1 (by omega)
 have fin:w64 (0+1)=1/\w64 (1+2)=3/\w64 (0+2)=2/\IntKind.wrap .i64 ((BitVec.ofInt 64 0 &&& BitVec.ofInt 64 1).toNat:Nat)=0/\IntKind.wrap .i64 ((BitVec.ofInt 64 1 &&& BitVec.ofInt 64 1).toNat:Nat)=1/\IntKind.wrap .i64 ((BitVec.ofInt 64 2 &&& BitVec.ofInt 64 1).toNat:Nat)=0/\IntKind.wrap .i64 ((BitVec.ofInt 64 3 &&& BitVec.ofInt 64 1).toNat:Nat)=1:=⟨by decide,by decide,by decide,by first|rfl|decide |(simp[IntKind.wrap,IntKind.bits,IntKind.signed]),by first|rfl|decide |(simp[IntKind.wrap,IntKind.bits,IntKind.signed]),by first|rfl|decide |(simp[IntKind.wrap,IntKind.bits,IntKind.signed]),by first|rfl|decide |(simp[IntKind.wrap,IntKind.bits,IntKind.signed])⟩
 intro A Q f f' g g' hok hpan
 unfold Q0
 exact two
end
end Go.Proofs.YtjhfloacokgdiaaGreatDoor
