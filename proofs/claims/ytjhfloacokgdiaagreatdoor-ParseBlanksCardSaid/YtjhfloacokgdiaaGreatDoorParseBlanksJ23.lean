/- Texts of ParseBlanks, joined. -/
import Derived.Test.YtjhfloacokgdiaaGreatDoorParseBlanksJ22
set_option maxRecDepth 100000
set_option maxHeartbeats 20000000
set_option linter.unusedSimpArgs false
set_option linter.unusedVariables false
set_option linter.unusedSectionVars false
namespace Go.Proofs.YtjhfloacokgdiaaGreatDoor
open Go Go.Vm
mutual
def Nod.cnt:Nod->Nat
 |⟨_,_,_,_,_,l,_⟩=>1+a2z l
def a2z:List Nod->Nat
 | []=>0
 | x::r=>x.cnt+a2z r
end
mutual
def Nod.dep:Nod->Nat
 |⟨_,_,_,_,_,l,_⟩=>b0w l+1
def b0w:List Nod->Nat
 | []=>0
 | x::r=>max x.dep (b0w r)
end
theorem Nod.cnt_eq (x:Nod):x.cnt=1+a2z x.l:=by cases x;rfl
theorem Nod.dep_eq (x:Nod):x.dep=b0w x.l+1:=by cases x;rfl
mutual
theorem b8O:∀x:Nod,x.er.cnt=x.cnt
 |⟨_,_,_,_,_,l,_⟩=>by rw[Nod.er,Nod.cnt,Nod.cnt,c0c l]
theorem c0c:∀l:List Nod,a2z (ers l)=a2z l
 | []=>rfl
 | x::r=>by rw[ers,a2z,a2z,b8O x,c0c r]
end
mutual
theorem b8R:∀x:Nod,x.er.dep=x.dep
 |⟨_,_,_,_,_,l,_⟩=>by rw[Nod.er,Nod.dep,Nod.dep,c0f l]
theorem c0f:∀l:List Nod,b0w (ers l)=b0w l
 | []=>rfl
 | x::r=>by rw[ers,b0w,b0w,b8R x,c0f r]
end
mutual
theorem b8P:∀x:Nod,x.cnt+x.dep<=2*x.sz
 |⟨_,_,_,t,ts,l,_⟩=>by
  have:=c0d l
  rw[Nod.cnt,Nod.dep,nsz]
  omega
theorem c0d:∀l:List Nod,a2z l+b0w l<=2*szN l
 | []=>by simp[a2z,b0w,szN]
 | x::r=>by
  have h1:=b8P x
  have h2:=c0d r
  simp only[a2z,b0w,szN]
  omega
end
mutual
theorem sz_er:∀x:Nod,x.er.sz=x.sz
 |⟨_,_,_,_,_,l,_⟩=>by rw[Nod.er,nsz,nsz,szN_er l]
theorem szN_er:∀l:List Nod,szN (ers l)=szN l
 | []=>rfl
 | x::r=>by rw[ers,szN,szN,sz_er x,szN_er r]
end
theorem b6Z:∀a b:List Nod,a2z (a++b)=a2z a+a2z b
 | [],b=>by simp[a2z]
 | x::a,b=>by rw[List.cons_append,a2z,a2z,b6Z a b];omega
theorem b60:∀l:List Nod,l.length<=a2z l
 | []=>Nat.le_refl _
 | x::r=>by have:=b60 r;have:=x.cnt_eq;simp only[a2z,List.length_cons];omega
theorem size_l {n:Nat}{Φ:K8}{x:Nod}(hx:x.sz<=1000000000)(H:∀y∈x.l,Φ.a0H y=some ((y.cnt:Int),(y.dep:Int))):∀(m i a d:Nat),x.l.length<m+i->i<=x.l.length->a+a2z (x.l.drop i)<=4000000000->a2F n Φ x m a d i=some (((a+a2z (x.l.drop i):Nat):Int),((max d (b0w (x.l.drop i)):Nat):Int))
 | 0,i,a,d,h1,h2,_=>by omega
 | m+1,i,a,d,h1,h2,h3=>by
  rw[a2F.eq_2]
  have hl:=a0P x.l
  have hz:=x.a3T
  rcases Nat.lt_or_ge i x.l.length with h|h
  ·rw[drop_eq h]at h3 ⊢
   simp only[a2z,b0w]at h3 ⊢
   rw[a2c (by omega),a6j h]
   simp only[NF,H _ (List.getElem_mem h)]
   have e1:w64 ((a:Int)+(x.l[i].cnt:Int)) =((a+x.l[i].cnt:Nat):Int):=by rw[a5I (by omega) (by omega)];omega
   have e2:max (d:Int) (x.l[i].dep:Int) =((max d x.l[i].dep:Nat):Int):=by omega
   rw[e1,e2,a1a (by omega),size_l hx H m (i+1) (a+x.l[i].cnt) (max d x.l[i].dep) (by omega) (by omega) (by omega)]
   congr 3
   ·omega
   ·omega
  ·rw[a2b (by omega),List.drop_eq_nil_of_le h]
   simp[NF,a2z,b0w]
theorem b9K:∀(n:Nat) (x:Nod),x.sz<n->x.sz<=1000000000->a0H n x=some ((x.cnt:Int),(x.dep:Int))
 | 0,x,h,_=>by omega
 | n+1,x,h,hx=>by
  have hz:=x.a3T
  have hc:=b8P x
  have hc1:=x.cnt_eq
  have hl:=a0P x.l
  have H:∀y∈x.l,(K8.fs n).a0H y=some ((y.cnt:Int),(y.dep:Int)):=fun y hy=>by
   have:=b6i hy
   exact b9K n y (by omega) (by omega)
  have e:=size_l (n:=n) hx H n 0 1 0 (by omega) (Nat.zero_le _) (by rw[List.drop_zero];omega)
  have e0:a2F n (K8.fs n) x n 1 0 0=_:=e
  show a3v n (K8.fs n) x=_
  unfold a3v
  rw[e0,List.drop_zero]
  simp only[NF]
  have hd:=x.dep_eq
  have e3:w64 (((max 0 (b0w x.l):Nat):Int)+1) =(x.dep:Int):=by rw[a5I (by omega) (by omega)];omega
  rw[e3,hc1]
theorem c0U {n:Nat}{Φ:A8}{a:List Typ}(ha:a.length<=1000000000)(H:∀t∈a,Φ.N8 t t=some true):∀(m i:Nat),a.length<m+i->i<=a.length->a0n n Φ a a m i=some (.brk ())
 | 0,i,h1,h2=>by omega
 | m+1,i,h1,h2=>by
  rw[a0n.eq_2]
  rcases Nat.lt_or_ge i a.length with h|h
  ·rw[a2c (by omega),a6j h]
   simp only[NF,H _ (List.getElem_mem h)]
   rw[a1a (by omega)]
   exact c0U ha H m (i+1) (by omega) (by omega)
  ·rw[a2b (by omega)];rfl
theorem sameTs {n:Nat}{a:List Typ}(ha:a.length<=1000000000)(hn:a.length<n)(H:∀t∈a,(A8.fs n).N8 t t=some true):(A8.fs (n+1)).K7 a a=some true:=by
 show a0C n (A8.fs n) a a=_
 have e:a0n n (A8.fs n) a a n 0=_:=c0U ha H n 0 (by omega) (Nat.zero_le _)
 unfold a0C
 rw[a3L rfl,e]
 rfl
theorem sameT:∀(n:Nat) (t:Typ),2*t.sz+1<=n->t.sz<=1000000000 ->(A8.fs n).N8 t t=some true
 | 0,t,h,_=>by have:=t.a3T;omega
 | 1,t,h,_=>by have:=t.a3T;omega
 | n+2,t,h,ht=>by
  have hz:=t.a3T
  have hl:=a9p t.args
  show a1M (n+1) (A8.fs (n+1)) t t=_
  unfold a1M
  rw[a3L rfl,a5n,a3L rfl,sameTs (by omega) (by omega) fun x hx=>by
   have:=b6j hx
   exact sameT n x (by omega) (by omega)]
  rfl
theorem c0T {n:Nat}{Φ:G5}{a b:List Nod}(ha:a.length<=1000000000)(hab:ers a=ers b)(H:∀x∈a,∀y,x.er=y.er->Φ.a0G x y=some true):∀(m i:Nat),a.length<m+i->i<=a.length->a0m n Φ a b m i=some (.brk ())
 | 0,i,h1,h2=>by omega
 | m+1,i,h1,h2=>by
  rw[a0m.eq_2]
  have hb:=a0S hab
  rcases Nat.lt_or_ge i a.length with h|h
  ·have hi:i<b.length:=by omega
   have e:(a[i]).er =(b[i]).er:=by
    have e1:∀(l:List Nod) (h:i<l.length),(ers l)[i]'(by rw[a5o];exact h) =(l[i]).er:=fun l=>by
     have:∀(l:List Nod) (i:Nat) (h:i<l.length),(ers l)[i]'(by rw[a5o];exact h) =(l[i]).er:=fun l=>by
      induction l with
      | nil=>intro i h;exact absurd h (Nat.not_lt_zero _)
      | cons x r ih =>
       intro i h
       cases i with
       | zero=>rfl
       | succ i=>exact ih i (by simpa using h)
     exact this l i
    rw[<-e1 a h,<-e1 b hi]
    simp only[hab]
   rw[a2c (by omega),a6j h,a6j hi]
   simp only[NF,H _ (List.getElem_mem h) _ e]
   rw[a1a (by omega)]
   exact c0T ha hab H m (i+1) (by omega) (by omega)
  ·rw[a2b (by omega)];rfl
theorem same_v:∀(n:Nat) (x y:Nod),2*x.sz+1<=n->x.sz<=1000000000->x.er=y.er ->(G5.fs n).a0G x y=some true
 | 0,x,y,h,_,_=>by have:=x.a3T;have:=x.t.a3T;omega
 | 1,x,y,h,_,_=>by have:=x.a3T;have:=x.t.a3T;omega
 | n+2,x,y,h,hx,he=>by
  have hz:=x.a3T
  have hl:=a0P x.l
  have hl2:=a9p x.ts
  obtain⟨e1,e2,e3,e4,e5,e6⟩:=b8Y he
  have hyl:=a0S e6
  show a3u (n+1) (G5.fs (n+1)) x y=_
  have g1:N8 (n+1) x.t y.t=some true:=by rw[<-e4];exact sameT (n+1) x.t (by omega) (by omega)
  have g2:K7 (n+1) x.ts y.ts=some true:=by
   rw[<-e5]
   exact sameTs (n:=n) (by omega) (by omega) fun t ht=>by
    have:=b6j ht
    exact sameT n t (by omega) (by omega)
  have g3:(G5.fs (n+1)).M7 x.l y.l=some true:=by
   have e:a0m n (G5.fs n) x.l y.l n 0=_:=c0T (by omega) e6 (fun z hz w hw=>by
    have:=b6i hz
    exact same_v n z w (by omega) (by omega) hw) n 0 (by omega) (Nat.zero_le _)
   show a0B n (G5.fs n) x.l y.l=_
   unfold a0B
   rw[a3L (show(x.l.length:Int) =(y.l.length:Int)by rw[hyl]),e]
   rfl
  unfold a3u
  rw[a3L e1,<-e2,a5n,a3L e3,g1,g2,g3]
  rfl
theorem a9n {n:Nat}{x y:Nod}(h:2*x.sz+1<=n)(hx:x.sz<=1000000000)(he:x.er=y.er):a0G n x y=some true:=same_v n x y h hx he
theorem leB_d (a b:Int):leB a b=decide (a<=b):=by unfold leB;rfl
section
variable {V:Int->Str->Prop} {l l':List Tok} {size size':Int} (C:Cx V l l')
include C
theorem b3G {n:Nat}(hn:100<=n):∀(m:Nat) (i a:Nat) (o:Int),l.length<m+i->i<=l.length->a<=l.length -> ∃q:Nat,a<=q/\q<=l.length/\bS (U9 n l m o i a) (fun _=>some (List.length l:Int)) some=some (q:Int)/\bS (U9 n l' m o i a) (fun _=>some (List.length l':Int)) some=some (q:Int)
 | 0,i,a,o,h1,h2,_=>by omega
 | m+1,i,a,o,h1,h2,h3=>by
  have hl:=C.hl
  rw[U9.eq_2,U9.eq_2]
  rcases Nat.lt_or_ge i l.length with h|h
  ·rw[a2c (show(i:Int)<(l.length:Int)by omega),a2c (show(i:Int)<(l'.length:Int)by rw[C.ln];omega)]
   have e1:idx' l (i:Int)=some (R5 l i):=a2p h
   have e2:idx' l' (i:Int)=some (R5 l' i):=a2p (by rw[C.ln];exact h)
   have hc:∀v,J8 n ([[115,116,114,117,99,116],[101,110,117,109],[99,108,97,115,115],[112,114,111,116,111,99,111,108],[101,120,116,101,110,100],[102,117,110,99],[109,111,118,101,111,110,108,121],[102,114,111,122,101,110]]:List Str) v=some (decide (v∈([[115,116,114,117,99,116],[101,110,117,109],[99,108,97,115,115],[112,114,111,116,111,99,111,108],[101,120,116,101,110,100],[102,117,110,99],[109,111,118,101,111,110,108,121],[102,114,111,122,101,110]]:List Str))):=fun v=>b2I (by simp only[List.length_cons,List.length_nil];omega) (by simp only[List.length_cons,List.length_nil];omega)
   have ih:=fun o=>b3G hn m (i+1) a o (by omega) (by omega) h3
   simp only[NF,CD,e1,e2,hc,C.kd,C.tx,a1a (show i<=1000000000000 by omega)]
   generalize decide ((R5 l i).text∈([[115,116,114,117,99,116],[101,110,117,109],[99,108,97,115,115],[112,114,111,116,111,99,111,108],[101,120,116,101,110,100],[102,117,110,99],[109,111,118,101,111,110,108,121],[102,114,111,122,101,110]]:List Str))=b1
   generalize eqS (R5 l i).text [123]=b2
   generalize eqS (R5 l i).text [125]=b3
   generalize eqB (R5 l i).kind 9=b4
   generalize eqB (R5 l i).kind 8=b5
   generalize leB o 0=b6
   cases h7:leB (a:Int) (i:Int)
   ·cases b5<;>cases b2<;>cases b3<;>simp only[NF]<;>exact ih _
   ·have h7:a<=i:=by
     have:=of_decide_eq_true ((leB_d _ _).symm.trans h7)
     omega
    cases b6<;>cases b4<;>cases b1<;>simp only[NF]<;>first
     | exact⟨i,h7,h2,rfl,rfl⟩
     |(cases b5<;>cases b2<;>cases b3<;>simp only[NF]<;>exact ih _)
  ·rw[a2b (show ¬(i:Int)<(l.length:Int)by omega),a2b (show ¬(i:Int)<(l'.length:Int)by rw[C.ln];omega)]
   exact⟨l.length,h3,Nat.le_refl _,rfl,by rw[C.ln];rfl⟩
theorem t_resume {A:Type}{Q:A->A->Prop}{n k q:Nat}{f f':Int->Option A}(hn:4000<=n)(hk:k<l.length)(h1:k<=q)(h2:q<=l.length)(h:∀p:Nat,k<p->p<=l.length->S2 Q (f (p:Int)) (f' (p:Int))):S2 Q ((Q8 n k l q size).bind f) ((Q8 n k l' q size').bind f'):=by
 have hl:=C.hl
 have key:∃p:Nat,k<p/\p<=l.length/\Q8 n k l q size=some (p:Int)/\Q8 n k l' q size'=some (p:Int):=by
  unfold Q8
  by_cases e:q=k
  ·subst e
   obtain⟨p,g1,g2,g3,g4⟩:=b3G C (n:=n) (by omega) n q (q+1) 0 (by omega) (by omega) (by omega)
   rw[a3L rfl]
   simp only[NF,a1a (show q<=1000000000000 by omega)]
   exact⟨p,g1,g2,g3,g4⟩
  ·obtain⟨p,g1,g2,g3,g4⟩:=b3G C (n:=n) (by omega) n k q 0 (by omega) (by omega) h2
   rw[a6C (by omega)]
   simp only[NF]
   exact⟨p,by omega,g2,g3,g4⟩
 obtain⟨p,g1,g2,g3,g4⟩:=key
 rw[g3,g4]
 exact h p g1 g2
def QM (V:Int->Str->Prop)(a b:List Flt×List Nod):Prop:=a.1.length=b.1.length/\ers a.2=ers b.2/\1+a2z a.2<=4000/\szN a.2<=12000 /\ ∀x∈a.2,G V 18 x/\x.dep<=39
theorem a8H {n:Nat}{src src':Str}(hn:400000<=n)(hs:(src.length:Int)=size)(hs':(src'.length:Int)=size'):∀(m k:Nat) (fs fs':List Flt) (xs ys:List Nod),k<=l.length->l.length<m+k->fs.length=fs'.length->fs.length<=20->ers xs=ers ys->1+a2z xs<=4000->szN xs<=4*k ->(∀x∈xs,G V 18 x/\x.dep<=39)->S2 (QM V) (P9 n src l m ((1+a2z xs:Nat):Int) fs xs k) (P9 n src' l' m ((1+a2z xs:Nat):Int) fs' ys k)
 | 0,k,_,_,_,_,h1,h2,_,_,_,_,_,_=>by omega
 | m+1,k,fs,fs',xs,ys,h1,h2,h3,h4,h5,h6,h7,h8=>by
  have hl:=C.hl
  have hlx:=b60 xs
  have hy:=a0S h5
  rw[P9.eq_2,P9.eq_2,hs,hs']
  have fin:S2 (QM V) (some (fs,xs)) (some (fs',ys)):=S2mk ⟨h3,h5,h6,by show szN xs<=12000;omega,h8⟩
  rcases Nat.lt_or_ge k l.length with h|h
  ·rw[a2c (show(k:Int)<(l.length:Int)by omega),a2c (show(k:Int)<(l'.length:Int)by rw[C.ln];omega)]
   simp only[NF]
   rcases Nat.lt_or_ge fs.length 20 with hf|hf
   ·rw[a2c (show(fs.length:Int)<20 by omega),a2c (show(fs'.length:Int)<20 by omega)]
    simp only[NF]
    rw[b21 C.hl h1,b21 C.hl' (C.hk' h1)]
    unfold a1p a2W
    simp only[NF]
    refine decl_r C h1 hn _ _ _ _ _ _ (fun{x y q} g1 g2 g3 g4 g5=>?_) (fun{e e' q} g1 g2 g3 g4=>?_)
    ·have hz:eqB 0 0=true:=a3L rfl
     have hx2:=b8P x
     have hsz:y.sz=x.sz:=by rw[<-sz_er y,<-g3,sz_er]
     simp only[NF,hz,Bool.and_self]
     rw[b9K n x (by omega) (by omega),b9K n y (by omega) (by omega)]
     ·have hd:y.dep=x.dep:=by rw[<-b8R y,<-g3,b8R]
      have hcn:y.cnt=x.cnt:=by rw[<-b8O y,<-g3,b8O]
      simp only[NF,hd,hcn]
      have e1:w64 (1+(x.dep:Int)) =((1+x.dep:Nat):Int):=by rw[a5I (by omega) (by omega)];omega
      have e2:w64 (((1+a2z xs:Nat):Int)+(x.cnt:Int)) =((1+a2z xs+x.cnt:Nat):Int):=by rw[a5I (by omega) (by omega)];omega
      rw[e1,e2]
      have ap:∀a:Flt,app 16 fs [a]=some (fs++[a]):=fun a=>b0t (by omega) (by simp) (by omega)
      have ap':∀a:Flt,app 16 fs' [a]=some (fs'++[a]):=fun a=>b0t (by omega) (by simp) (by omega)
      rcases Nat.lt_or_ge 40 (1+x.dep)with hd1|hd1
      ·rw[a2c (by omega)]
       simp only[NF,ap,ap']
       exact a8H hn hs hs' m q (fs++[_]) (fs'++[_]) xs ys g2 (by omega) (by simp only[List.length_append,List.length_singleton];omega) (by simp only[List.length_append,List.length_singleton];omega) h5 h6 (by omega) h8
      ·rw[a2b (by omega)]
       simp only[NF]
       rcases Nat.lt_or_ge 4000 (1+a2z xs+x.cnt)with hd2|hd2
       ·rw[a2c (by omega)]
        simp only[NF,ap,ap']
        exact a8H hn hs hs' m q (fs++[_]) (fs'++[_]) xs ys g2 (by omega) (by simp only[List.length_append,List.length_singleton];omega) (by simp only[List.length_append,List.length_singleton];omega) h5 h6 (by omega) h8
       ·rw[a2b (by omega),b0t (l:=xs) (m:=[x]) (by omega) (by simp) (by omega)]
        simp only[NF]
        rw[b0t (l:=ys) (m:=[y]) (by omega) (by simp) (by omega)]
        simp only[NF]
        have e3:1+a2z xs+x.cnt=1+a2z (xs++[x]):=by rw[b6Z];simp only[a2z];omega
        rw[e3]
        refine a8H hn hs hs' m q fs fs' (xs++[x]) (ys++[y]) g2 (by omega) h3 h4 (c0h h5 (b69 g3 rfl)) (by omega) (by rw[b0k];simp only[szN];omega) ?_
        exact a4c h8 (a2M ⟨g5,by omega⟩)
    ·have hz:eqB e.fault.code 0=false:=a6C g4
     have hz':eqB e'.fault.code 0=false:=a6C (by rw[<-g3];exact g4)
     simp only[NF,hz,hz',Bool.false_and]
     rw[b0t (l:=fs) (by omega) (by simp) (by omega),b0t (l:=fs') (by omega) (by simp) (by omega)]
     simp only[NF]
     refine t_resume C (by omega) h g1 g2 fun p p1 p2=>?_
     exact a8H hn hs hs' m p (fs++[_]) (fs'++[_]) xs ys p2 (by omega) (by simp only[List.length_append,List.length_singleton];omega) (by simp only[List.length_append,List.length_singleton];omega) h5 h6 (by omega) h8
   ·rw[a2b (show ¬(fs.length:Int)<20 by omega),a2b (show ¬(fs'.length:Int)<20 by omega)]
    exact fin
  ·rw[a2b (show ¬(k:Int)<(l.length:Int)by omega),a2b (show ¬(k:Int)<(l'.length:Int)by rw[C.ln];omega)]
   exact fin
end
end Go.Proofs.YtjhfloacokgdiaaGreatDoor
namespace Go.Proofs.YtjhfloacokgdiaaGreatDoor
open Go Go.Vm
theorem tok_dig {s:Str}:∀t∈a3b (Sc.a0R s),t.kind=3->digB t.text=true:=by
 intro t ht hk
 cases h:Sc.a0R s with
 | done l =>
  rw[h]at ht
  obtain⟨u,hu,rfl⟩:=List.mem_map.1 ht
  exact Sc.int_digB (Sc.tok_int h u hu hk)
 | go x=>rw[h]at ht;cases ht
 | err c a=>rw[h]at ht;cases ht
def V0 (kd:Int)(s:Str):Prop:=kd=3->digB s=true
theorem tokT_mem {l:List Tok}{k:Nat}(h:k<l.length):R5 l k∈l:=by
 unfold R5
 rw[List.getElem?_eq_getElem h]
 exact List.getElem_mem h
theorem cx0 {s s':Str}(hn:(a3b (Sc.a0R s')).length =(a3b (Sc.a0R s)).length)(he:∀k,(R5 (a3b (Sc.a0R s')) k).kind =(R5 (a3b (Sc.a0R s)) k).kind/\(R5 (a3b (Sc.a0R s')) k).text =(R5 (a3b (Sc.a0R s)) k).text):Cx V0 (a3b (Sc.a0R s)) (a3b (Sc.a0R s')) where
 hl:=b8f s
 ln:=hn
 kd k:=(he k).1
 tx k:=(he k).2
 tk {k kd} h h3:=by
  subst h3
  have hk:(R5 (a3b (Sc.a0R s)) k).kind=3:=by
   unfold isK at h
   rw[Bool.and_eq_true,b4w]at h
   exact of_decide_eq_true h.2
  exact tok_dig _ (tokT_mem (a3s h)) hk
 lit h h4:=by cases h4
 int h:=h rfl
theorem a9q (s:Str):(eqB (a8Z (Sc.a0R s)) 0=true/\eqB (tokA (Sc.a0R s)) 0=true)∨eqB (a8Z (Sc.a0R s)) 0=false:=by
 rcases tok_code s with⟨h1,h2⟩ |⟨h1,_⟩
 ·exact .inl ⟨a3L h1,a3L h2⟩
 ·exact .inr (a6C h1)
theorem modules2 {n:Nat}{s s':Str}(hn:400000<=n)(hc:eqB (a8Z (Sc.a0R s)) 0=true)(hc':eqB (a8Z (Sc.a0R s')) 0=true){V:Int->Str->Prop}(C:Cx V (a3b (Sc.a0R s)) (a3b (Sc.a0R s'))):∃x y f g,a1m n s=some (x,f)/\a1m n s'=some (y,g)/\x.er=y.er/\f.length=g.length/\x.sz<=12002:=by
 have ha:eqB (tokA (Sc.a0R s)) 0=true:=by rcases a9q s with h|h;exact h.2;rw[h]at hc;cases hc
 have ha':eqB (tokA (Sc.a0R s')) 0=true:=by rcases a9q s' with h|h;exact h.2;rw[h]at hc';cases hc'
 have hl:=C.hl
 obtain⟨⟨f,xs⟩,⟨g,ys⟩,e1,e2,h1,h2,h3,h4,h5⟩:=a8H C (n:=n) (src:=s) (src':=s') hn rfl rfl n 0 [] [] [] [] (Nat.zero_le _) (by omega) rfl (Nat.zero_le _) rfl (by simp[a2z]) (by simp[szN]) all_nil
 have e1:P9 n s (a3b (Sc.a0R s)) n 1 [] [] 0=some (f,xs):=e1
 have e2:P9 n s' (a3b (Sc.a0R s')) n 1 [] [] 0=some (g,ys):=e2
 refine⟨⟨1,[],0,zT,[],xs,0⟩,⟨1,[],0,zT,[],ys,0⟩,f,g,?_,?_,er_mk h2,h1,?_⟩
 ·unfold a1m a4p a2X
  simp only[NF,hc,ha,Bool.and_self,e1]
 ·unfold a1m a4p a2X
  simp only[NF,hc',ha',Bool.and_self,e2]
 ·have h4:szN xs<=12000:=h4
  simp only[nsz,tsz,c0X]
  omega
theorem cat_b {a b:Str}(h:a.length+b.length<=100000):cat a b=some (a++b):=by
 unfold cat
 rw[b3c (by omega)]
theorem b0x (s:Str):(Rp.esc s).length<=2*s.length:=Rp.a92 s
theorem c1S (t:Tok)(h:t.text.length<=8000):∃w:Str,a3D t=some w/\w.length<=16010:=by
 have h1:=b0x t.text
 have h2:escS t.text=some (Rp.esc t.text):=by
  unfold escS leN
  rw[decide_eq_true (by omega)]
 have c:∀a b:Str,a.length<=20000->b.length<=20000->cat a b=some (a++b):=fun a b g1 g2=>cat_b (by omega)
 have ca:∀a:UInt8,cat [a] (Rp.esc t.text)=some ([a]++Rp.esc t.text):=fun a=>c _ _ (by simp) (by omega)
 have cb:∀(a:UInt8) (b:Str),b.length<=100->cat ([a]++Rp.esc t.text) b=some ([a]++Rp.esc t.text++b):=fun a b hb=>c _ _ (by simp only[List.length_append,List.length_singleton];omega) (by omega)
 unfold a3D
 simp only[h2,NF,ca]
 have cb1:=fun a=>cb a [34] (by simp)
 have cb2:=fun a=>cb a [92,40] (by simp)
 simp only[cb1,cb2,NF]
 cases eqB t.kind 4
 ·cases eqB t.kind 5
  ·cases eqB t.kind 6
   ·cases eqB t.kind 7
    ·exact⟨_,rfl,by omega⟩
    ·exact⟨_,rfl,by simp only[List.length_append,List.length_cons,List.length_nil];omega⟩
   ·exact⟨_,rfl,by simp only[List.length_append,List.length_cons,List.length_nil];omega⟩
  ·exact⟨_,rfl,by simp only[List.length_append,List.length_cons,List.length_nil];omega⟩
 ·exact⟨_,rfl,by simp only[List.length_append,List.length_cons,List.length_nil];omega⟩
def wt (l:List Str):Nat:=(l.map fun s=>s.length+1).sum
theorem wt_app (a b:List Str):wt (a++b)=wt a+wt b:=by simp[wt]
theorem b7j:∀l:List Str,(Lib.join l [32]).length<=wt l
 | []=>by simp[Lib.join,List.intercalate]
 | [a]=>by simp[Lib.join,List.intercalate,wt]
 | a::b::r=>by
  have h:=b7j (b::r)
  have e:Lib.join (a::b::r) [32]=a ++([32]++Lib.join (b::r) [32]):=by simp[Lib.join,List.intercalate]
  rw[e]
  simp only[List.length_append,List.length_singleton]
  have:wt (a::b::r)=a.length+1+wt (b::r):=by simp[wt]
  omega
theorem b78 {n:Nat}{l:List Tok}(hl:l.length<=3000):∀(m i:Nat) (ps:List Str),l.length<m+i->i<=l.length->ps.length=i->wt ps<=8001->a2K n l m ps (wt ps:Nat) i=some (.out ([],4)) ∨ ∃qs,a2K n l m ps (wt ps:Nat) i=some (.brk qs)/\qs.length=l.length/\wt qs<=8001
 | 0,i,ps,h1,h2,_,_=>by omega
 | m+1,i,ps,h1,h2,h3,h4=>by
  rw[a2K.eq_2]
  rcases Nat.lt_or_ge i l.length with h|h
  ·rw[a2c (by omega),a6j h]
   simp only[NF]
   rcases Nat.lt_or_ge 8000 (l[i]).text.length with g|g
   ·rw[a2c (by omega)]
    exact .inl rfl
   ·rw[a2b (by omega)]
    obtain⟨w,e1,e2⟩:=c1S l[i] g
    simp only[NF,e1]
    have e3:w64 ((wt ps:Nat)+w64 ((w.length:Int)+1)) =((wt (ps++[w]):Nat):Int):=by
     rw[a5I (a:=(w.length:Int)+1) (by omega) (by omega),a5I (by omega) (by omega),wt_app]
     simp[wt]
    rw[e3]
    rcases Nat.lt_or_ge 8001 (wt (ps++[w]))with g2|g2
    ·rw[a2c (by omega)]
     exact .inl rfl
    ·rw[a2b (by omega),b0t (by omega) (by simp) (by omega),a1a (by omega)]
     simp only[NF]
     exact b78 hl m (i+1) (ps++[w]) (by omega) (by omega) (by simp;omega) g2
  ·rw[a2b (by omega)]
   exact .inr ⟨ps,rfl,by omega,h4⟩
theorem b5e {n:Nat}{l b:List Tok}(hl:l.length<=3000)(hb:b.length=l.length):∀(m i:Nat),l.length<m+i->i<=l.length ->(∀k,k<i ->(R5 b k).kind =(R5 l k).kind/\(R5 b k).text =(R5 l k).text)->a2l n l b m i=some (.out ([],4))∨a2l n l b m i=some (.brk ()) /\ ∀k,k<l.length ->(R5 b k).kind =(R5 l k).kind/\(R5 b k).text =(R5 l k).text
 | 0,i,h1,h2,_=>by omega
 | m+1,i,h1,h2,h3=>by
  rw[a2l.eq_2]
  rcases Nat.lt_or_ge i l.length with h|h
  ·rw[a2c (by omega),a2p (by omega),a2p h]
   simp only[NF,CD,b4w,eqS_d]
   by_cases g1:(R5 b i).kind =(R5 l i).kind
   ·rw[decide_eq_true g1]
    by_cases g2:(R5 b i).text =(R5 l i).text
    ·rw[decide_eq_true g2,a1a (by omega)]
     simp only[NF]
     exact b5e hl hb m (i+1) (by omega) (by omega) fun k hk=>by
      rcases Nat.lt_or_ge k i with h4|h4
      ·exact h3 k h4
      ·obtain rfl:k=i:=by omega
       exact⟨g1,g2⟩
    ·rw[decide_eq_false g2]
     exact .inl rfl
   ·rw[decide_eq_false g1]
    exact .inl rfl
  ·rw[a2b (by omega)]
   exact .inr ⟨rfl,fun k hk=>h3 k (by omega)⟩
theorem b8g {l:List Tok}{k:Nat}(h:l.length<=k):R5 l k =⟨0,[],0,0⟩:=by
 unfold R5
 rw[List.getElem?_eq_none h];rfl
theorem spell_v {n:Nat}{l:List Tok}(hl:l.length<=3000)(hn:4000<=n):∃s c,a5A n l=some (s,c)/\(c=0->eqB (a8Z (Sc.a0R s)) 0=true/\(a3b (Sc.a0R s)).length=l.length/\(l=[]->s=[]) /\ ∀k,(R5 (a3b (Sc.a0R s)) k).kind =(R5 l k).kind/\(R5 (a3b (Sc.a0R s)) k).text =(R5 l k).text):=by
 have hk:mkOk 16 (List.length l:Int)=true:=by
  unfold mkOk
  rw[b3c (by omega),b3c (by omega)];rfl
 unfold a5A
 rw[a2b (by omega),hk]
 simp only[gdO,NF]
 have h6:=b78 (n:=n) hl n 0 [] (by omega) (Nat.zero_le _) rfl (by simp[wt])
 have w0:wt []=0:=rfl
 simp only[w0,Int.natCast_zero]at h6
 rcases h6 with e |⟨qs,e,g1,g2⟩
 ·rw[e]
  exact⟨_,_,rfl,fun h=>by cases h⟩
 ·rw[e]
  have hj:=b7j qs
  have ej:b4M qs [32]=some (Lib.join qs [32]):=by
   unfold b4M leN
   rw[decide_eq_true (by omega),decide_eq_true (by omega)];rfl
  simp only[NF,ej]
  unfold a2X
  simp only[NF]
  generalize hs:Lib.join qs [32]=s at *
  rcases a9q s with⟨t1,t2⟩|t1
  ·simp only[t1,t2,Bool.and_self,NF]
   by_cases hb:(a3b (Sc.a0R s)).length=l.length
   ·rw[a3L (by omega)]
    have h21:=b5e (n:=n) (b:=a3b (Sc.a0R s)) hl hb n 0 (by omega) (Nat.zero_le _) (fun k hk=>by omega)
    simp only[Int.natCast_zero]at h21
    simp only[NF]
    rcases h21 with e2 |⟨e2,e3⟩
    ·rw[e2]
     exact⟨_,_,rfl,fun h=>by cases h⟩
    ·rw[e2]
     refine⟨_,_,rfl,fun _=>⟨t1,hb,fun h=>?_,fun k=>?_⟩⟩
     ·subst h
      have:qs=[]:=List.length_eq_zero_iff.1 g1
      subst this
      rw[<-hs];rfl
     ·rcases Nat.lt_or_ge k l.length with h|h
      ·exact e3 k h
      ·rw[b8g h,b8g (by omega)]
       exact⟨rfl,rfl⟩
   ·rw[a6C (by omega)]
    exact⟨_,_,rfl,fun h=>by cases h⟩
  ·simp only[t1,Bool.false_and,NF]
   exact⟨_,_,rfl,fun h=>by cases h⟩
theorem fits_v {s:Str}(h:a3b (Sc.a0R s)=[]->s=[]):∃b,a5r s=some b:=by
 unfold a5r a2X
 cases ltB 8000 (s.length:Int)
 ·simp only[NF]
  rcases hl:a3b (Sc.a0R s)with _ |⟨t,r⟩
  ·rw[h hl,a2b (by simp)]
   exact⟨_,rfl⟩
  ·rw[a2c (by simp only[List.length_cons];omega)]
   exact⟨_,rfl⟩
 ·exact⟨_,rfl⟩
theorem b6L (s:Str):a14 1000000 s=some true:=by
 unfold a14 a7q
 simp only[NF]
 have aw:b07=some true:=rfl
 cases ltB 8200 (s.length:Int)
 ·simp only[NF]
  unfold a2X
  simp only[NF]
  obtain⟨s',c,e,h⟩:=spell_v (n:=1000000) (b8f s) (by omega)
  rw[e]
  simp only[NF,CD]
  rcases a9q s with⟨t1,t2⟩|t1
  ·simp only[t1,NF]
   by_cases hc:c=0
   ·obtain⟨g1,g2,g3,g4⟩:=h hc
    rw[a3L hc]
    obtain⟨b,hb⟩:=fits_v (s:=s') (fun h=>g3 (List.length_eq_zero_iff.1 (by rw[<-g2,h];rfl)))
    simp only[NF,hb,aw]
    cases b
    ·rfl
    ·have C:=cx0 g2 g4
     obtain⟨x,y,f,g,e1,e2,e3,e4,e5⟩:=modules2 (n:=1000000) (by omega) t1 g1 C
     simp only[NF,e1,e2,a9n (n:=1000000) (by omega) (by omega) e3]
     rw[a3L (show(f.length:Int) =(g.length:Int)by omega)]
     rfl
   ·rw[a6C hc]
    rfl
  ·simp only[t1,NF]
   rfl
 ·rfl
end Go.Proofs.YtjhfloacokgdiaaGreatDoor
namespace Go.Proofs.YtjhfloacokgdiaaGreatDoor
open Go Go.Vm
theorem b8E (s:Str):E env (.call 6 [.str s]) []=some (.ret (.bool true) []):=a9s.ok (b6L s)
end Go.Proofs.YtjhfloacokgdiaaGreatDoor
