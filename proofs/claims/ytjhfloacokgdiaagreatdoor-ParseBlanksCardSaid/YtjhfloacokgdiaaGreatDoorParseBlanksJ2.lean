/- Texts of ParseBlanks, joined. -/
import Derived.Test.YtjhfloacokgdiaaGreatDoorParseBlanksJ1
import Derived.Below
set_option maxRecDepth 100000
set_option maxHeartbeats 20000000
set_option linter.unusedSimpArgs false
set_option linter.unusedVariables false
set_option linter.unusedSectionVars false
namespace Go.Vm
section
variable {P:Program} {T:List (Nat×Ty)} {ρ ρ':Rho} {lab:Lab} {w:World} {H:Hp} {fr:Fr} {a:Act} {n nr:Nat} {env:Env} {orc:Orc}
theorem Rel.up (hρ:ρ.le ρ'){v:V}{x:Value}(h:Rel ρ lab w v x):Rel ρ' lab w v x:=h.ext (Ext.refl lab w) hρ
theorem G9.up (hρ:ρ.le ρ'){v:List V}{x:List Value}(h:G9 ρ lab w v x):G9 ρ' lab w v x:=h.ext (Ext.refl lab w) hρ
theorem a3q.up (hρ:ρ.le ρ'){k:Nat}{o:Obj}(h:a3q ρ lab w k o):a3q ρ' lab w k o:=h.carry (Ext.refl lab w) hρ (fun _ _ hq=>⟨hq,rfl⟩) (fun _ _ _ hq=>hq)
theorem b3E:G9 ρ lab w [] []:=⟨rfl,by simp⟩
theorem A9 {v:V}{r:List V}{xs:List Value}:G9 ρ lab w (v::r) xs ↔ ∃x xr,xs=x::xr/\Rel ρ lab w v x/\G9 ρ lab w r xr:=by
 constructor
 ·rintro⟨h1,h2⟩
  cases xs with
  | nil=>simp at h1
  | cons x xr =>
   refine⟨x,xr,rfl,h2 0 v x rfl rfl,by simpa using h1,fun i u y hu hy=>h2 (i+1) u y (by simpa using hu) (by simpa using hy)⟩
 ·rintro⟨x,xr,rfl,h1,h2,h3⟩
  refine⟨by simp[h2],fun i u y hu hy=>?_⟩
  cases i with
  | zero=>simp at hu hy;subst hu hy;exact h1
  | succ i=>exact h3 i u y (by simpa using hu) (by simpa using hy)
theorem a7p (v:V):(∃n cs,v=.slice .nil n cs) ∨ ∀n cs,v ≠ .slice .nil n cs:=by
 cases v with
 | slice o n cs=>cases o with
  | nil=>exact .inl ⟨n,cs,rfl⟩
  | _=>exact .inr (fun _ _ h=>by cases h)
 | _=>exact .inr (fun _ _ h=>by cases h)
theorem b5j {v:V}(h:∀n cs,v ≠ .slice .nil n cs)(r:List V)(k:Nat):a2A (v::r) k =(v ::(a2A r k).1,(a2A r k).2):=by
 cases v with
 | slice o n cs=>cases o with
  | nil=>exact absurd rfl (h n cs)
  | _=>rfl
 | _=>rfl
theorem a3o:∀(vs:List V) (k:Nat),k <=(a2A vs k).2
 | [],k=>Nat.le_refl _
 | v::r,k=>by
  rcases a7p v with⟨n,cs,rfl⟩|h
  ·have:=a3o r (k+1);simp only[a2A];omega
  ·rw[b5j h];exact a3o r k
theorem Rel.tag {k n:Nat}{cs:List V}{x:Value}(hk:ρ'.hd k 0=some (none,0))(h:Rel ρ lab w (.slice .nil n cs) x):Rel ρ' lab w (.slice (.tag k) n cs) x:=by
 cases h with
 | slice _ _ _ xs b o ao cap g1 g2 g3 g4 g5 g6 g7 g8 g9 =>
  obtain⟨rfl,rfl,rfl,rfl⟩:=g7
  cases xs with
  | nil=>exact .slice _ 0 [] [] b o none 0 rfl (Nat.le_refl _) (by simp) (by simp) (by simp) (by simp) hk (by simp) (by simp)
  | cons y ys=>simp at g1
theorem a7f (hρ:ρ.le ρ'):∀(vs:List V) (k:Nat) (xs:List Value),(∀j,k<=j->j<(a2A vs k).2->ρ'.hd j 0=some (none,0))->G9 ρ lab w vs xs->G9 ρ' lab w (a2A vs k).1 xs
 | [],k,xs,_,h=>h.up hρ
 | v::r,k,xs,hk,h=>by
  obtain⟨x,xr,rfl,h1,h2⟩:=A9.1 h
  rcases a7p v with⟨n,cs,rfl⟩|hv
  ·simp only[a2A]at hk ⊢
   have hm:=a3o r (k+1)
   refine A9.2 ⟨x,xr,rfl,h1.tag (hk k (Nat.le_refl _) (by omega)),a7f hρ r (k+1) xr (fun j h3 h4=>hk j (by omega) h4) h2⟩
  ·rw[b5j hv]at hk ⊢
   exact A9.2 ⟨x,xr,rfl,h1.up hρ,a7f hρ r k xr hk h2⟩
theorem b0U (cs:List V)(k:Nat):k <=(a3F cs k).2:=by
 unfold a3F
 split
 ·exact Nat.le_refl _
 ·exact a3o cs k
theorem b9T (hρ:ρ.le ρ')(cs:List V)(k:Nat)(xs:List Value)(hk:∀j,k<=j->j<(a3F cs k).2->ρ'.hd j 0=some (none,0))(h:G9 ρ lab w cs xs):G9 ρ' lab w (a3F cs k).1 xs:=by
 unfold a3F at hk ⊢
 split
 ·exact h.up hρ
 ·rename_i hl
  simp only[hl]at hk
  exact a7f hρ cs k xs hk h
theorem b0m {i k:Nat}{o:Obj}(h:∀cs,o ≠ .row cs)(r:Hp):L9 ((i,o)::r) k =((i,o) ::(L9 r k).1,(L9 r k).2):=by
 cases o with
 | row cs=>exact absurd rfl (h cs)
 | _=>rfl
theorem isRow (o:Obj):(∃cs,o=.row cs) ∨ ∀cs,o ≠ .row cs:=by
 cases o with
 | row cs=>exact .inl ⟨cs,rfl⟩
 | _=>exact .inr (fun _ h=>by cases h)
theorem a1X:∀(H:Hp) (k:Nat),k <=(L9 H k).2
 | [],k=>Nat.le_refl _
 |(i,o)::r,k=>by
  rcases isRow o with⟨cs,rfl⟩|h
  ·have:=b0U cs k;have:=a1X r (a3F cs k).2;simp only[L9];omega
  ·rw[b0m h];exact a1X r k
theorem a6x:∀{H:Hp} {i:Nat} (k:Nat),Canon i H->Canon i (L9 H k).1/\(L9 H k).1.length=H.length
 | [],i,k,_=>⟨trivial,rfl⟩
 |(s,o)::r,i,k,h=>by
  obtain⟨rfl,h2⟩:=h
  rcases isRow o with⟨cs,rfl⟩|hr
  ·simp only[L9]
   obtain⟨g1,g2⟩:=a6x (a3F cs k).2 h2
   exact⟨⟨rfl,g1⟩,by simp[g2]⟩
  ·rw[b0m hr]
   obtain⟨g1,g2⟩:=a6x k h2
   exact⟨⟨rfl,g1⟩,by simp[g2]⟩
def TagOk (ρ ρ':Rho)(lab:Lab)(w:World)(j:Nat)(o o':Obj):Prop:=(∀e n,o=.tip e n->o'=.tip e n)/\(a3q ρ lab w j o->a3q ρ' lab w j o')
theorem b0n (hρ:ρ.le ρ'):∀(H:Hp) (k:Nat),(∀j,k<=j->j<(L9 H k).2->ρ'.hd j 0=some (none,0)) -> ∀j,
  (hget j H=none/\hget j (L9 H k).1=none) ∨ ∃o o',hget j H=some o/\hget j (L9 H k).1=some o'/\TagOk ρ ρ' lab w j o o'
 | [],k,_,j=>.inl ⟨rfl,rfl⟩
 |(s,o)::r,k,hk,j=>by
  rcases isRow o with⟨cs,rfl⟩|hr
  ·simp only[L9]at hk ⊢
   have hm:=b0U cs k
   have hm2:=a1X r (a3F cs k).2
   simp only[hget]
   cases hb:Nat.beq s j with
   | true =>
    refine .inr ⟨_,_,rfl,rfl,(fun e n h=>by cases h),?_⟩
    rintro⟨b,o,xs,h1,h2,h3⟩
    exact⟨b,o,xs,hρ.at_ _ _ h1,b9T hρ cs k xs (fun i h4 h5=>hk i h4 (by omega)) h2,h3⟩
   | false=>exact b0n hρ r _ (fun i h4 h5=>hk i (by omega) h5) j
  ·rw[b0m hr]at hk ⊢
   simp only[hget]
   cases hb:Nat.beq s j with
   | true=>exact .inr ⟨_,_,rfl,rfl,fun e n h=>h,fun h=>h.up hρ⟩
   | false=>exact b0n hρ r _ hk j
theorem b3Z:∀(k n:Nat),Canon k (a9D k n)/\(a9D k n).length=n
 | _,0=>⟨trivial,rfl⟩
 | k,n+1=>by
  obtain⟨h1,h2⟩:=b3Z (k+1) n
  exact⟨⟨rfl,h1⟩,by simp[a9D,h2]⟩
theorem b30:∀(k n j:Nat) (o:Obj),hget j (a9D k n)=some o->o=.tip 0 0
 | _,0,j,o,h=>by cases h
 | k,n+1,j,o,h=>by
  simp only[a9D,hget]at h
  split at h
  ·cases h;rfl
  ·exact b30 _ n j o h
theorem a9Z:∀{H:Hp} {k j:Nat},Canon k H->k<=j->j<k+H.length -> ∃o,hget j H=some o:=by
 intro H k j h h1 h2
 have h3:=b4s h (j-k)
 rw[show k+(j-k)=j from by omega]at h3
 have h4:j-k<H.length:=by omega
 rw[h3,List.getElem?_eq_getElem h4]
 exact⟨_,rfl⟩
theorem a4K:∀{A B:Hp} {k:Nat},Canon k A->Canon (k+A.length) B->Canon k (A++B)
 | [],B,k,_,h=>by simpa using h
 |(s,o)::r,B,k,h,h'=>by
  obtain⟨rfl,h2⟩:=h
  refine⟨rfl,a4K h2 ?_⟩
  rw[List.length_cons]at h'
  rw[show s+1+r.length=s+(r.length+1)from by omega]
  exact h'
def Rho.a7U (ρ:Rho)(g m k n:Nat):Rho :=
 ⟨fun j=>if g<=j/\j<g+m then some (none,some 0)else ρ.at_ j,fun j l=>if k<=j/\j<k+n then(if l=0 then some (none,0)else none)else ρ.hd j l⟩
theorem Sim.a7U (hS:Sim ρ lab H w)(hc:Canon 0 H){G:Hp}{k2:Nat}(hG:Canon H.length G)(hGo:∀j o,hget j G=some o -> ∃e,o=.grow e [])(hk2:H.length+G.length<=k2) :
  ∃ρ',ρ.le ρ'/\(∀j,H.length<=j->j<H.length+G.length->ρ'.at_ j=some (none,some 0))/\(∀j,H.length+G.length<=j->j<(L9 H k2).2->ρ'.hd j 0=some (none,0)) /\
   Sim ρ' lab ((L9 H k2).1++G++a9D (H.length+G.length) ((L9 H k2).2-(H.length+G.length))) w /\
   Canon 0 ((L9 H k2).1++G++a9D (H.length+G.length) ((L9 H k2).2-(H.length+G.length))) /\
   H.length <=((L9 H k2).1++G++a9D (H.length+G.length) ((L9 H k2).2-(H.length+G.length))).length:=by
 obtain⟨c1,c2⟩:=a6x k2 hc
 have hmono:=a1X H k2
 generalize hk1:H.length+G.length=k1 at *
 generalize hn3:(L9 H k2).2-k1=n3
 obtain⟨t1,t2⟩:=b3Z k1 n3
 have hnoneH:∀j,H.length<=j->hget j H=none:=fun j hj=>by
  cases hq:hget j H with
  | none=>rfl
  | some o=>have:=a1j hc j o hq;omega
 have hnoneC:∀j,H.length<=j->hget j (L9 H k2).1=none:=fun j hj=>by
  cases hq:hget j (L9 H k2).1 with
  | none=>rfl
  | some o=>have:=a1j c1 j o hq;omega
 have hnoneG:∀j,k1<=j->hget j G=none:=fun j hj=>by
  cases hq:hget j G with
  | none=>rfl
  | some o=>have:=a1j hG j o hq;omega
 refine⟨ρ.a7U H.length G.length k1 n3,⟨fun j x hx=>?_,fun j m x hx=>?_⟩,fun j h1 h2=>?_,fun j h1 h2=>?_,?_,?_,?_⟩
 ·simp only[Rho.a7U]
  split
  ·rename_i hj
   exact absurd (hnoneH j hj.1) (hS.adom j x hx)
  ·exact hx
 ·simp only[Rho.a7U]
  split
  ·rename_i hj
   obtain⟨e,m',h1,_⟩:=hS.hdom j m x hx
   rw[hnoneH j (by omega)]at h1;cases h1
  ·exact hx
 ·simp only[Rho.a7U];rw[if_pos ⟨h1,by omega⟩]
 ·simp only[Rho.a7U];rw[if_pos ⟨h1,by omega⟩];rfl
 ·have hle:ρ.le (ρ.a7U H.length G.length k1 n3):=by
   refine⟨fun j x hx=>?_,fun j m x hx=>?_⟩
   ·simp only[Rho.a7U]
    split
    ·rename_i hj
     exact absurd (hnoneH j hj.1) (hS.adom j x hx)
    ·exact hx
   ·simp only[Rho.a7U]
    split
    ·rename_i hj
     obtain⟨e,m',h1,_⟩:=hS.hdom j m x hx
     rw[hnoneH j (by omega)]at h1;cases h1
    ·exact hx
  have hhd:∀j,k2<=j->j<(L9 H k2).2 ->(ρ.a7U H.length G.length k1 n3).hd j 0=some (none,0):=fun j h1 h2=>by
   simp only[Rho.a7U];rw[if_pos ⟨by omega,by omega⟩];rfl
  have htr:=b0n (lab:=lab) (w:=w) hle H k2 hhd
  refine Sim.mk' hS.kp (fun j o hj=>?_) (fun j m x hx=>?_) (fun j x hx=>?_) hS.ldom
  ·rw[a1k,a1k]at hj
   rcases htr j with⟨g1,g2⟩ |⟨o1,o2,g1,g2,g3⟩
   ·rw[g2]at hj
    simp only at hj
    cases hq:hget j G with
    | some o3 =>
     rw[hq]at hj;cases hj
     obtain⟨e,rfl⟩:=hGo j o hq
     have hlt:=a1j hG j _ hq
     refine⟨none,0,[],?_,b3E,by simp,fun _=>rfl,by simp,by simp,by simp⟩
     simp only[Rho.a7U];rw[if_pos ⟨by omega,by omega⟩]
    | none =>
     rw[hq]at hj
     simp only at hj
     have:=b30 _ _ _ _ hj
     subst this
     have hlt:=a1j t1 j _ hj
     refine⟨none,0,?_,Nat.le_refl _,fun _=>rfl,fun _=>rfl,by simp⟩
     simp only[Rho.a7U];rw[if_pos ⟨by omega,by omega⟩];rfl
   ·rw[g2]at hj
    simp only at hj
    cases hj
    exact g3.2 (hS.obj g1)
  ·simp only[Rho.a7U]at hx
   rw[a1k,a1k]
   split at hx
   ·rename_i hj
    split at hx
    ·subst_vars
     rw[hnoneC j (by omega),hnoneG j hj.1]
     obtain⟨o,ho⟩:=a9Z t1 hj.1 (by omega)
     have:=b30 _ _ _ _ ho
     subst this
     exact⟨0,0,ho,Nat.le_refl _⟩
    ·cases hx
   ·obtain⟨e,m',h1,h2⟩:=hS.hdom j m x hx
    rcases htr j with⟨g1,g2⟩ |⟨o1,o2,g1,g2,g3⟩
    ·rw[g1]at h1;cases h1
    ·rw[h1]at g1;cases g1
     have:=g3.1 e m' rfl
     subst this
     rw[g2]
     exact⟨e,m',rfl,h2⟩
  ·simp only[Rho.a7U]at hx
   rw[a1k,a1k]
   split at hx
   ·rename_i hj
    rw[hnoneC j (by omega)]
    obtain⟨o,ho⟩:=a9Z hG hj.1 (by omega)
    rw[ho]
    simp
   ·have:=hS.adom j x hx
    rcases htr j with⟨g1,g2⟩ |⟨o1,o2,g1,g2,g3⟩
    ·exact absurd g1 this
    ·rw[g2];simp
 ·refine a4K (a4K c1 ?_) ?_
  ·rw[c2];simpa using hG
  ·rw[List.length_append,c2,Nat.zero_add,hk1];exact t1
 ·simp only[List.length_append,c2];omega
theorem a1K (s:Nat)(v:V)(r:Fr):look s ((s,v)::r)=v:=by simp[look]
theorem a0F {s t:Nat}(h:s≠t)(v:V)(r:Fr):look t ((s,v)::r)=look t r:=by rw[a9f,if_neg h]
theorem a99 {f:V->Option V}:∀{fr fr':Fr},b4R f fr=some fr' -> ∀t,look t fr'=.undef∨f (look t fr)=some (look t fr')
 | [],fr',h,t=>by simp only[b4R]at h;cases h;exact .inl rfl
 |(s,v)::r,fr',h,t=>by
  simp only[b4R]at h
  split at h
  ·rename_i v' r' h1 h2
   cases h
   by_cases hs:s=t
   ·subst hs;rw[a1K,a1K];exact .inr h1
   ·rw[a0F hs,a0F hs];exact a99 h2 t
  ·cases h
theorem b4O:∀(l:List Nat) (fr:Fr) (t:Nat),look t (l.map fun s=>(s,look s fr))=.undef∨look t (l.map fun s=>(s,look s fr))=look t fr
 | [],fr,t=>.inl rfl
 | s::r,fr,t=>by
  rw[List.map_cons]
  by_cases hs:s=t
  ·subst hs;rw[a1K];exact .inr rfl
  ·rw[a0F hs];exact b4O r fr t
theorem a7H (b:Nat->Option Nat):∀(fr:Fr) (k:Nat),Canon k (a11 b fr k).2 /\ ∀j o,hget j (a11 b fr k).2=some o -> ∃e,o=.grow e []
 | [],k=>⟨trivial,fun j o h=>by cases h⟩
 |(s,v)::r,k=>by
  obtain⟨h1,h2⟩:=a7H b r (k+1)
  obtain⟨h3,h4⟩:=a7H b r k
  simp only[a11]
  split
  ·refine⟨⟨rfl,h1⟩,fun j o hj=>?_⟩
   simp only[hget]at hj
   split at hj
   ·cases hj;exact⟨_,rfl⟩
   ·exact h2 j o hj
  ·exact⟨h3,h4⟩
theorem Rel.ref {k n:Nat}{cs:List V}{x:Value}(hk:ρ'.at_ k=some (none,some 0))(h:Rel ρ lab w (.slice .nil n cs) x):Rel ρ' lab w (.rslice k 0 0 true) x:=by
 cases h with
 | slice _ _ _ xs b o ao cap g1 g2 g3 g4 g5 g6 g7 g8 g9 =>
  obtain⟨rfl,rfl,rfl,rfl⟩:=g7
  exact .rslice k 0 0 true none (some 0) none 0 hk (Nat.le_refl _) (fun _=>rfl) (fun _=>⟨rfl,rfl⟩) (by simp)
theorem b1n (b:Nat->Option Nat)(hρ:ρ.le ρ')(t:Nat)(x:Value):∀(fr:Fr) (k:Nat),(∀j,k<=j->j<k+(a11 b fr k).2.length->ρ'.at_ j=some (none,some 0)) ->
  Rel ρ lab w (look t fr) x->Rel ρ' lab w (look t (a11 b fr k).1) x
 | [],k,_,h=>h.up hρ
 |(s,v)::r,k,hk,h=>by
  simp only[a11]at hk ⊢
  split at hk
  ·rename_i e n cs he hv
   simp only[List.length_cons]at hk
   by_cases hs:s=t
   ·subst hs;simp only[a1K]at h ⊢;exact h.ref (hk k (Nat.le_refl _) (by omega))
   ·rw[a0F hs]at h
    simp only[a0F hs]
    exact b1n b hρ t x r (k+1) (fun j h1 h2=>hk j (by omega) (by omega)) h
  ·rename_i v' hno
   by_cases hs:s=t
   ·subst hs;simp only[a1K]at h ⊢;exact h.up hρ
   ·rw[a0F hs]at h
    simp only[a0F hs]
    exact b1n b hρ t x r k hk h
theorem b8c {v:V}(h:∀n cs,v ≠ .slice .nil n cs)(s:Nat)(r:Fr)(k:Nat):a4u ((s,v)::r) k =((s,v) ::(a4u r k).1,(a4u r k).2):=by
 cases v with
 | slice o n cs=>cases o with
  | nil=>exact absurd rfl (h n cs)
  | _=>rfl
 | _=>rfl
theorem a7L:∀(fr:Fr) (k:Nat),k <=(a4u fr k).2
 | [],k=>Nat.le_refl _
 |(s,v)::r,k=>by
  rcases a7p v with⟨n,cs,rfl⟩|h
  ·have:=a7L r (k+1);simp only[a4u];omega
  ·rw[b8c h];exact a7L r k
theorem b3Y (hρ:ρ.le ρ')(t:Nat)(x:Value):∀(fr:Fr) (k:Nat),(∀j,k<=j->j<(a4u fr k).2->ρ'.hd j 0=some (none,0)) ->
  Rel ρ lab w (look t fr) x->Rel ρ' lab w (look t (a4u fr k).1) x
 | [],k,_,h=>h.up hρ
 |(s,v)::r,k,hk,h=>by
  rcases a7p v with⟨n,cs,rfl⟩|hv
  ·simp only[a4u]at hk ⊢
   have hm:=a7L r (k+1)
   by_cases hs:s=t
   ·subst hs;simp only[a1K]at h ⊢;exact h.tag (hk k (Nat.le_refl _) (by omega))
   ·rw[a0F hs]at h
    simp only[a0F hs]
    exact b3Y hρ t x r (k+1) (fun j h1 h2=>hk j (by omega) h2) h
  ·rw[b8c hv]at hk ⊢
   by_cases hs:s=t
   ·subst hs;simp only[a1K]at h ⊢;exact h.up hρ
   ·rw[a0F hs]at h
    simp only[a0F hs]
    exact b3Y hρ t x r k hk h
theorem a7k:∀{H:Hp} {k j:Nat} {o:Obj},Canon k H->hget j H≠none->Canon k (hset j o H)/\(hset j o H).length=H.length
 | [],_,_,_,_,h=>absurd rfl h
 |(s,x)::r,k,j,o,hc,h=>by
  obtain⟨rfl,hc2⟩:=hc
  simp only[hget]at h
  simp only[hset]
  cases hb:Nat.beq s j with
  | true =>
   have:=Nat.eq_of_beq_eq_true hb
   subst this
   exact⟨⟨rfl,hc2⟩,rfl⟩
  | false =>
   rw[hb]at h
   simp only at h ⊢
   have hlt:s<j:=by
    cases hq:hget j r with
    | none=>exact absurd hq h
    | some o'=>have:=a1j hc2 j o' hq;omega
   have hbl:Nat.ble j s=false:=by
    cases hq:Nat.ble j s with
    | false=>rfl
    | true=>have:=Nat.le_of_ble_eq_true hq;omega
   rw[hbl]
   obtain⟨g1,g2⟩:=a7k (o:=o) hc2 h
   exact⟨⟨rfl,g1⟩,by simp only[List.length_cons,g2]⟩
theorem Sim.full1 (hS:Sim ρ lab H w)(hc:Canon 0 H){n:Nat}{cs:List V}{x:Value}(hv:Rel ρ lab w (.slice .full n cs) x)(h0:isFull n cs=true) :
  ∃ρ',ρ.le ρ'/\Sim ρ' lab (H++[(H.length,.tip (eSz n cs) n)]) w/\Canon 0 (H++[(H.length,.tip (eSz n cs) n)])/\Rel ρ' lab w (.slice (.tag H.length) n cs) x:=by
 simp only[isFull,Bool.and_eq_true,Nat.blt_eq]at h0
 obtain⟨hn0,he0⟩:=h0
 cases hv with
 | slice _ _ _ xs b o ao cap g1 g2 g3 g4 g5 g6 g7 g8 g9 =>
  simp only at g7
  subst g7
  have hao:=g3 hn0
  have hnone:∀j,H.length<=j->hget j H=none:=fun j hj=>by
   cases hq:hget j H with
   | none=>rfl
   | some o=>have:=a1j hc j o hq;omega
  have hle:ρ.le ⟨ρ.at_,fun j m=>if j=H.length then(if m=cap then some (ao,cap)else none)else ρ.hd j m⟩:=by
   refine⟨fun k x h=>h,fun j m x h=>?_⟩
   simp only
   rw[if_neg]
   ·exact h
   ·rintro rfl
    obtain⟨e,m',h1,_⟩:=hS.hdom _ m x h
    rw[hnone _ (Nat.le_refl _)]at h1;cases h1
  have hgetE:∀j,hget j (H++[(H.length,.tip (eSz cap cs) cap)])=if j=H.length then some (.tip (eSz cap cs) cap)else hget j H:=by
   intro j
   rw[a1k]
   by_cases hj:j=H.length
   ·subst hj
    rw[if_pos rfl,hnone _ (Nat.le_refl _)]
    simp[hget]
   ·rw[if_neg hj]
    cases hq:hget j H with
    | some o=>rfl
    | none =>
     simp only[hget]
     cases hb:Nat.beq H.length j with
     | true=>exact absurd (Nat.eq_of_beq_eq_true hb).symm hj
     | false=>rfl
  refine⟨_,hle,Sim.mk' hS.kp (fun j o' hj=>?_) (fun j m x h=>?_) (fun j x h=>?_) hS.ldom,?_,?_⟩
  ·rw[hgetE]at hj
   split at hj
   ·rename_i he
    subst he
    cases hj
    refine⟨ao,cap,?_,Nat.le_refl _,fun h=>?_,fun h=>by omega,fun a ha=>⟨?_,fun i h1 h2=>by omega⟩⟩
    ·simp
    ·rw[hao]at h;cases h
    ·rw[hao]at ha;cases ha;rfl
   ·exact(hS.obj hj).up hle
  ·simp only at h
   rw[hgetE]
   split at h
   ·rename_i he
    split at h
    ·subst_vars
     rw[if_pos rfl]
     exact⟨_,_,rfl,Nat.le_refl _⟩
    ·cases h
   ·rename_i he
    rw[if_neg he]
    exact hS.hdom j m x h
  ·rw[hgetE]
   split
   ·simp
   ·exact hS.adom j x h
  ·refine a4K hc ?_
   rw[Nat.zero_add]
   exact⟨rfl,trivial⟩
  ·refine .slice _ cap cs xs b o ao cap g1 g2 g3 g4 g5 (fun i v x h1 h2=>(g6 i v x h1 h2).up hle) ?_ g8 g9
   simp
theorem b1C (v:V):(∃n cs,v=.slice .full n cs) ∨ ∀n cs,v ≠ .slice .full n cs:=by
 cases v with
 | slice o n cs=>cases o with
  | full=>exact .inl ⟨n,cs,rfl⟩
  | _=>exact .inr (fun _ _ h=>by cases h)
 | _=>exact .inr (fun _ _ h=>by cases h)
theorem fullL_no {v:V}(h:∀n cs,v ≠ .slice .full n cs)(r:List V)(k:Nat):a1N (v::r) k =(v ::(a1N r k).1,(a1N r k).2):=by
 cases v with
 | slice o n cs=>cases o with
  | full=>exact absurd rfl (h n cs)
  | _=>rfl
 | _=>rfl
theorem b0B:∀(vs:List V) {ρ:Rho} {H:Hp} {xs:List Value},Sim ρ lab H w->Canon 0 H->G9 ρ lab w vs xs ->
  ∃ρ',ρ.le ρ'/\Sim ρ' lab (H ++(a1N vs H.length).2) w/\Canon 0 (H ++(a1N vs H.length).2)/\G9 ρ' lab w (a1N vs H.length).1 xs
 | [],ρ,H,xs,hS,hc,h=>⟨ρ,.refl _,by simpa [a1N]using hS,by simpa [a1N]using hc,h⟩
 | v::r,ρ,H,xs,hS,hc,h=>by
  obtain⟨x,xr,rfl,h1,h2⟩:=A9.1 h
  have skip:∀u:V,Rel ρ lab w u x -> ∃ρ',ρ.le ρ'/\Sim ρ' lab (H ++(a1N r H.length).2) w/\Canon 0 (H ++(a1N r H.length).2)/\G9 ρ' lab w (u ::(a1N r H.length).1) (x::xr):=fun u hu=>by
   obtain⟨ρ',k1,k2,k3,k4⟩:=b0B r hS hc h2
   exact⟨ρ',k1,k2,k3,A9.2 ⟨x,xr,rfl,hu.up k1,k4⟩⟩
  rcases b1C v with⟨n,cs,rfl⟩|hv
  ·simp only[a1N]
   cases h0:isFull n cs with
   | false=>exact skip _ h1
   | true =>
    obtain⟨ρ1,k1,k2,k3,k4⟩:=hS.full1 hc h1 h0
    obtain⟨ρ2,m1,m2,m3,m4⟩:=b0B r k2 k3 (h2.up k1)
    simp only[List.length_append,List.length_cons,List.length_nil,Nat.zero_add]at m2 m3 m4
    simp only[List.append_assoc,List.singleton_append]at m2 m3
    exact⟨ρ2,k1.trans m1,m2,m3,A9.2 ⟨x,xr,rfl,k4.up m1,m4⟩⟩
  ·rw[fullL_no hv];exact skip _ h1
theorem a8z:∀(ks:List Nat) {ρ:Rho} {H:Hp},Sim ρ lab H w->Canon 0 H -> ∃ρ',ρ.le ρ'/\Sim ρ' lab (b0A ks H) w/\Canon 0 (b0A ks H)/\H.length <=(b0A ks H).length
 | [],ρ,H,hS,hc=>⟨ρ,.refl _,hS,hc,Nat.le_refl _⟩
 | k::r,ρ,H,hS,hc=>by
  simp only[b0A,gH_eq]
  split
  ·rename_i cs hk
   split
   ·exact a8z r hS hc
   rename_i t ts heq
   rw[<-heq]
   obtain⟨b,o,xs,g1,g2,g3⟩:=hS.row k cs hk
   obtain⟨ρ1,k1,k2,k3,k4⟩:=b0B cs hS hc g2
   have hk2:hget k (H ++(a1N cs H.length).2)=some (.row cs):=by rw[a1k,hk]
   obtain⟨c1,c2⟩:=a7k (o:=.row (a1N cs H.length).1) k3 (by rw[hk2];simp)
   have hS2:Sim ρ1 lab (hset k (.row (a1N cs H.length).1) (H ++(a1N cs H.length).2)) w:=by
    refine Sim.mk' k2.kp (fun i o' hi=>?_) (fun i n' x h=>?_) (fun i x h=>?_) k2.ldom
    ·rw[q9]at hi
     split at hi
     ·rename_i he
      subst he
      cases hi
      exact⟨b,o,xs,k1.at_ _ _ g1,k4,g3⟩
     ·exact k2.obj hi
    ·obtain⟨e,m,q1,q2⟩:=k2.hdom i n' x h
     refine⟨e,m,?_,q2⟩
     rw[q9,if_neg]
     ·exact q1
     ·rintro rfl;rw[hk2]at q1;cases q1
    ·rw[q9]
     split
     ·simp
     ·exact k2.adom i x h
   obtain⟨ρ2,m1,m2,m3,m4⟩:=a8z r hS2 c1
   refine⟨ρ2,k1.trans m1,m2,m3,?_⟩
   rw[c2,List.length_append]at m4
   omega
  ·exact a8z r hS hc
theorem fullC_ok {b:Bool}{vs:List V}{xs:List Value}(hS:Sim ρ lab H w)(hc:Canon 0 H)(h:G9 ρ lab w vs xs) :
  ∃ρ',ρ.le ρ'/\Sim ρ' lab (a8y b vs H).2 w/\Canon 0 (a8y b vs H).2/\G9 ρ' lab w (a8y b vs H).1 xs/\H.length <=(a8y b vs H).2.length:=by
 cases b with
 | false=>exact⟨ρ,.refl _,hS,hc,h,Nat.le_refl _⟩
 | true =>
  obtain⟨ρ1,k1,k2,k3,k4⟩:=b0B vs hS hc h
  obtain⟨ρ2,m1,m2,m3,m4⟩:=a8z (List.range H.length) k2 k3
  rw[List.length_append]at m4
  exact⟨ρ2,k1.trans m1,m2,m3,k4.up m1,by simp only[a8y];omega⟩
theorem c1p {v:V}(h:∀n cs,v ≠ .slice .full n cs)(s:Nat)(r:Fr)(seen:List Nat)(k:Nat):a1H seen ((s,v)::r) k =((s,v) ::(a1H (s::seen) r k).1,(a1H (s::seen) r k).2):=by
 cases v with
 | slice o n cs=>cases o with
  | full=>exact absurd rfl (h n cs)
  | _=>rfl
 | _=>rfl
theorem b87 {s t:Nat}{l:List Nat}(h:has t (s::l)=false):s≠t/\has t l=false:=by
 simp only[has]at h
 cases hb:Nat.beq s t with
 | true=>rw[hb]at h;cases h
 | false=>rw[hb]at h;exact⟨by rintro rfl;simp at hb,h⟩
theorem b1e {arr:Array Value}:∀ (fr:Fr) (seen:List Nat) {ρ:Rho} {H:Hp},Sim ρ lab H w -> Canon 0 H -> (∀ t,has t seen = false -> Rel ρ lab w (look t fr) (arr.getD t undef)) ->
    ∃ρ',ρ.le ρ'/\Sim ρ' lab (H ++(a1H seen fr H.length).2) w/\Canon 0 (H ++(a1H seen fr H.length).2) /\ ∀t,has t seen=false->Rel ρ' lab w (look t (a1H seen fr H.length).1) (arr.getD t undef)
  | [],seen,ρ,H,hS,hc,h=>⟨ρ,.refl _,by simpa [a1H]using hS,by simpa [a1H]using hc,h⟩
  |(s,v)::r,seen,ρ,H,hS,hc,h=>by
    have hr:∀t,has t (s::seen)=false->Rel ρ lab w (look t r) (arr.getD t undef):=fun t ht=>by
      obtain⟨h1,h2⟩:=b87 ht
      have:=h t h2
      rwa [a0F h1]at this
    have join:∀ (ρ':Rho) (u:V) (r':Fr),(has s seen = false -> Rel ρ' lab w u (arr.getD s undef)) -> (∀ t,has t (s :: seen) = false -> Rel ρ' lab w (look t r') (arr.getD t undef)) ->
        ∀t,has t seen=false->Rel ρ' lab w (look t ((s,u)::r')) (arr.getD t undef):=fun ρ' u r' h1 h2 t ht=>by
      by_cases hs:s=t
      · subst hs;rw[a1K];exact h1 ht
      · rw[a0F hs]
        refine h2 t ?_
        simp only[has]
        cases hb:Nat.beq s t with
        | true=>exact absurd (Nat.eq_of_beq_eq_true hb) hs
        | false=>exact ht
    have hv0:has s seen=false->Rel ρ lab w v (arr.getD s undef):=fun hs=>by have:=h s hs;rwa [a1K]at this
    have skip:∃ρ',ρ.le ρ'/\Sim ρ' lab (H ++(a1H (s::seen) r H.length).2) w/\Canon 0 (H ++(a1H (s::seen) r H.length).2) /\ ∀t,has t seen=false->Rel ρ' lab w (look t ((s,v) ::(a1H (s::seen) r H.length).1)) (arr.getD t undef):=by
      obtain⟨ρ',k1,k2,k3,k4⟩:=b1e r (s::seen) hS hc hr
      exact⟨ρ',k1,k2,k3,join ρ' v _ (fun hs=>(hv0 hs).up k1) k4⟩
    rcases b1C v with⟨n,cs,rfl⟩|hv
    · simp only[a1H]
      cases h0:isFull n cs && !has s seen with
      | false=>exact skip
      | true =>
        simp only[Bool.and_eq_true,Bool.not_eq_true']at h0
        obtain⟨ρ1,k1,k2,k3,k4⟩:=hS.full1 hc (hv0 h0.2) h0.1
        obtain⟨ρ2,m1,m2,m3,m4⟩:=b1e r (s::seen) k2 k3 (fun t ht=>(hr t ht).up k1)
        simp only[List.length_append,List.length_cons,List.length_nil,Nat.zero_add]at m2 m3 m4
        simp only[List.append_assoc,List.singleton_append]at m2 m3
        exact⟨ρ2,k1.trans m1,m2,m3,join ρ2 _ _ (fun _=>k4.up m1) m4⟩
    · rw[c1p hv];exact skip
theorem fullN_ok {b:Bool}{arr:Array Value}(hS:Sim ρ lab H w)(hc:Canon 0 H)(h:a1F ρ lab w fr arr) :
  ∃ρ',ρ.le ρ'/\Sim ρ' lab (b4G b fr H).2 w/\a1F ρ' lab w (b4G b fr H).1 arr/\H.length <=(b4G b fr H).2.length:=by
 cases b with
 | false=>exact⟨ρ,.refl _,hS,h,Nat.le_refl _⟩
 | true =>
  obtain⟨ρ1,k1,k2,k3,k4⟩:=b1e fr [] hS hc (fun t _=>h t)
  obtain⟨ρ2,m1,m2,m3,m4⟩:=a8z (List.range H.length) k2 k3
  rw[List.length_append]at m4
  exact⟨ρ2,k1.trans m1,m2,fun t=>(k4 t rfl).up m1,by simp only[b4G];omega⟩
end
end Go.Vm
namespace Go.Vm
section
variable {P:Program} {T:List (Nat×Ty)} {ρ ρ':Rho} {lab:Lab} {w:World} {H:Hp} {fr:Fr} {a:Act} {n nr:Nat} {env:Env} {orc:Orc}
theorem Rel.a4v {v:V}{x:Value}(h:Rel ρ lab w v x):Rel ρ lab w (b0O v) x:=by
 cases h with
 | slice ow n cells xs b o ao cap g1 g2 g3 g4 g5 g6 g7 g8 g9=>exact .slice .sealed n cells xs b o ao cap g1 g2 g3 g4 g5 g6 trivial g8 g9
 | undef=>exact .undef _
 | bool=>exact .bool _
 | int=>exact .int _ _
 | str=>exact .str _
 | nilptr=>exact .nilptr
 | ptr r off b o c h=>exact .ptr r off b o c h
 | cptr cells xs b o h1 h2 h3 h4=>exact .cptr cells xs b o h1 h2 h3 h4
 | rslice r off n wh base g ao cap h1 h2 h3 h4 h5=>exact .rslice r off n wh base g ao cap h1 h2 h3 h4 h5
 | func fn a c xs ys h1 h2 h3 h4=>exact .func fn a c xs ys h1 h2 h3 h4
 | nilFunc=>exact .nilFunc
 | iface t v x h=>exact .iface t v x h
 | nilIface=>exact .nilIface
 | opq m=>exact .opq m
 | map r b c h=>exact .map r b c h
 | agg cells xs h1 h2=>exact .agg cells xs h1 h2
 | tuple cells xs h1 h2=>exact .tuple cells xs h1 h2
theorem b9C {f:V->V}(hf:∀v x,Rel ρ lab w v x->Rel ρ lab w (f v) x){vs:List V}{xs:List Value}(h:G9 ρ lab w vs xs):G9 ρ lab w (vs.map f) xs:=by
 refine⟨by rw[List.length_map];exact h.1,fun i v x hv hx=>?_⟩
 rw[List.getElem?_map,Option.map_eq_some_iff]at hv
 obtain⟨u,hu,rfl⟩:=hv
 exact hf u x (h.2 i u x hu hx)
theorem G9.a4v {vs:List V}{xs:List Value}(h:G9 ρ lab w vs xs):G9 ρ lab w (vs.map b0O) xs:=b9C (fun _ _ h=>h.a4v) h
theorem Rel.b0N {v:V}{x:Value}(h:Rel ρ lab w v x):Rel ρ lab w (a6b v) x:=by
 cases v with
 | agg cs=>cases h with|agg _ xs h1 h2=>have:=G9.a4v (ρ:=ρ) (lab:=lab) (w:=w) ⟨h1,h2⟩;exact .agg _ xs this.1 this.2
 | _=>exact h.a4v
theorem G9.b8e:∀{vs:List V} {i:Nat} {xs:List Value},G9 ρ lab w vs xs->G9 ρ lab w (b3O i vs) xs
 | [],i,_,h=>by cases i<;>exact h
 | v::r,0,xs,h=>by
  obtain⟨x,xr,rfl,h1,h2⟩:=A9.1 h
  exact A9.2 ⟨x,xr,rfl,h1.a4v,h2⟩
 | v::r,i+1,xs,h=>by
  obtain⟨x,xr,rfl,h1,h2⟩:=A9.1 h
  exact A9.2 ⟨x,xr,rfl,h1,G9.b8e h2⟩
theorem Sim.seal1 (hS:Sim ρ lab H w){k j:Nat}{cs:List V}(hk:hget k H=some (.row cs)):Sim ρ lab (hset k (.row (b3O j cs)) H) w:=by
 refine Sim.mk' hS.kp (fun i o hi=>?_) (fun i n' x h=>?_) (fun i x h=>?_) hS.ldom
 ·rw[q9]at hi
  split at hi
  ·rename_i he
   subst he
   cases hi
   obtain⟨b,o,xs,g1,g2,g3⟩:=hS.row i cs hk
   exact⟨b,o,xs,g1,g2.b8e,g3⟩
  ·exact hS.obj hi
 ·obtain⟨e,m,g1,g2⟩:=hS.hdom i n' x h
  refine⟨e,m,?_,g2⟩
  rw[q9,if_neg]
  ·exact g1
  ·rintro rfl;rw[hk]at g1;cases g1
 ·rw[q9]
  split
  ·simp
  ·exact hS.adom i x h
theorem Sim.a8X (fr:Fr):∀(l:List (Nat×Nat)) {H:Hp},Sim ρ lab H w->Sim ρ lab (a8X fr l H) w
 | [],_,hS=>hS
 |(s,j)::r,H,hS=>by
  simp only[Vm.a8X]
  refine Sim.a8X fr r ?_
  split
  ·split
   ·rename_i hk;exact hS.seal1 hk
   ·exact hS
  ·split
   ·split
    ·rename_i hk;exact hS.seal1 hk
    ·exact hS
   ·exact hS
theorem b1P (l:List (Nat×Nat))(t:Nat)(x:Value):∀{fr:Fr},Rel ρ lab w (look t fr) x->Rel ρ lab w (look t (b3Q l fr)) x
 | [],h=>h
 |(s,v)::r,h=>by
  simp only[b3Q]
  by_cases hs:s=t
  ·subst hs
   rw[a1K]at h ⊢
   cases hasP (100000+s) 0 l with
   | true=>exact h.b0N
   | false=>exact h
  ·rw[a0F hs]at h ⊢
   exact b1P l t x h
structure a0V (nr:Nat)(ρ ρ':Rho):Prop where
 at_:∀k x,k<nr->ρ.at_ k=some x->ρ'.at_ k=some x
 hd:∀k n x,k<nr->ρ.hd k n=some x->ρ'.hd k n=some x
theorem a0V.of_le (h:ρ.le ρ')(nr:Nat):a0V nr ρ ρ':=⟨fun k x _ hx=>h.at_ k x hx,fun k n x _ hx=>h.hd k n x hx⟩
theorem a0V.trans {a b c:Rho}{n m:Nat}(h:a0V n a b)(g:a0V m b c)(hm:n<=m):a0V n a c :=
 ⟨fun k x hk hx=>g.at_ k x (by omega) (h.at_ k x hk hx),fun k l x hk hx=>g.hd k l x (by omega) (h.hd k l x hk hx)⟩
theorem b1o:∀{k nr:Nat} {ns:List Nat},a7I k nr ns=true -> ∀i,i<nr->ns[i]? = some (k+i)
 | _,0,_,_,i,hi=>by omega
 | _,_+1,[],h,_,_=>by cases h
 | k,n+1,a::r,h,i,hi=>by
  simp only[a7I,Bool.and_eq_true]at h
  cases i with
  | zero=>have:=Nat.eq_of_beq_eq_true h.1;simp[this]
  | succ i =>
   have:=b1o h.2 i (by omega)
   simp only[List.getElem?_cons_succ,this]
   congr 1;omega
theorem a9l {ns:List Nat}(h:a7I 0 nr ns=true):a0V nr ρ (ρ.sub ns) where
 at_:=fun k x hk hx=>by have:=b1o h k hk;simp only[Nat.zero_add]at this;simp only[Rho.sub,this];exact hx
 hd:=fun k n x hk hx=>by have:=b1o h k hk;simp only[Nat.zero_add]at this;simp only[Rho.sub,this];exact hx
theorem b3I:∀{k nr:Nat} {ns:List Nat},a7I k nr ns=true->nr<=ns.length
 | _,0,_,_=>Nat.zero_le _
 | _,_+1,[],h=>by cases h
 | k,n+1,a::r,h=>by
  simp only[a7I,Bool.and_eq_true]at h
  have:=b3I h.2
  simp only[List.length_cons];omega
theorem Sim.pick (hS:Sim ρ lab H w){ns:List Nat}(hn:ns.Nodup){H2:Hp}(hp:a3k H (idx · ns) ns 0=some H2){lab2:Lab}
  (hl0:∀b o,lab b o=none->lab2 b o=none) (hl1:∀b o k i,lab b o=some (some k)->idx k ns=some i->lab2 b o=some (some i)) (hl2:∀b o y,lab2 b o=some y->lab b o≠none) (hl3:∀b o k,lab2 b o=some (some k) -> ∃j,lab b o=some (some j)) :
  Ren (idx · ns) ρ (ρ.sub ns) lab lab2/\Sim (ρ.sub ns) lab2 H2 w:=by
 obtain⟨c1,c2,c3⟩:=a6Z hp
 have hR:Ren (idx · ns) ρ (ρ.sub ns) lab lab2:=⟨(b0M (lab:=lab) ns).at_,(b0M (lab:=lab) ns).hd,hl0⟩
 have hsome:∀i k,ns[i]? = some k -> ∃o o',hget k H=some o/\a9B (idx · ns) o=some o'/\hget i H2=some o':=fun i k hk=>by
  have:=c3 i k hk
  simpa using this
 refine⟨hR,Sim.mk' ⟨hS.kp.1,fun p hp o k h=>by obtain⟨j,hj⟩:=hl3 _ _ _ h;exact hS.kp.2 p hp o j hj⟩ (fun j o hj=>?_) (fun j n' x h=>?_) (fun j x h=>?_) (fun b o j hl=>?_)⟩
 ·have hlt:=a1j c1 j o hj
  have hjn:j<ns.length:=by omega
  obtain⟨o1,o2,k1,k2,k3⟩:=hsome j ns[j] (by simp[hjn])
  rw[hj]at k3;cases k3
  have hidx:=b2g hn (show ns[j]? = some ns[j]from by simp[hjn])
  exact a3q.ren hR hidx (fun b p hl=>hl1 b p _ _ hl hidx) (hS.obj k1) k2
 ·simp only[Rho.sub,Option.bind_eq_some_iff]at h
  obtain⟨k,hk,hx⟩:=h
  obtain⟨e,m,g1,g2⟩:=hS.hdom k n' x hx
  obtain⟨o1,o2,k1,k2,k3⟩:=hsome j k hk
  rw[g1]at k1;cases k1
  simp only[a9B]at k2;cases k2
  exact⟨e,m,k3,g2⟩
 ·simp only[Rho.sub,Option.bind_eq_some_iff]at h
  obtain⟨k,hk,hx⟩:=h
  obtain⟨o1,o2,k1,k2,k3⟩:=hsome j k hk
  rw[k3];simp
 ·have:=hl2 b o j hl
  cases hq:lab b o with
  | none=>exact absurd hq this
  | some y=>exact hS.ldom b o y hq
def Lab.drop (lab:Lab)(ns:List Nat):Lab:=fun b o=>match lab b o with
 | some (some k)=>(match idx k ns with|some i=>some (some i)|none=>none)
 | x=>x
theorem Sim.drop (hS:Sim ρ lab H w){ns:List Nat}(hn:ns.Nodup){H2:Hp}(hp:a3k H (idx · ns) ns 0=some H2) :
  Ren (idx · ns) ρ (ρ.sub ns) lab (lab.drop ns)/\Sim (ρ.sub ns) (lab.drop ns) H2 w/\Ext lab w (lab.drop ns) w:=by
 have hl0:∀b o,lab b o=none->lab.drop ns b o=none:=fun b o h=>by simp only[Lab.drop,h]
 obtain⟨h1,h2⟩:=hS.pick hn hp (lab2:=lab.drop ns) hl0 (fun b o k i hl hi=>by simp only[Lab.drop,hl,hi]) (fun b o y hy hq=>by rw[hl0 b o hq]at hy;cases hy) (fun b o k h=>by
  simp only[Lab.drop]at h
  cases hq:lab b o with
  | none=>rw[hq]at h;cases h
  | some y =>
   cases y with
   | none=>rw[hq]at h;cases h
   | some j=>exact⟨j,rfl⟩)
 refine⟨h1,h2,⟨Nat.le_refl _,rfl,rfl,rfl,fun b o _ h=>hl0 b o h,fun b o=>?_,fun _ _ _ _=>⟨rfl,rfl⟩,fun _ _ _=>rfl⟩⟩
 simp only[Lab.drop]
 split
 ·rename_i k hk
  rw[hk]
  split<;>simp
 ·exact .rfl
theorem Ext.subL (lab:Lab)(w:World)(ns:List Nat):∀b o,lab.sub ns b o=none↔lab b o=none:=by
 intro b o
 simp only[Lab.sub]
 split
 ·rename_i k hk
  rw[hk]
  split<;>simp
 ·exact .rfl
theorem renum_ok {fr':Fr}{H':Hp}{arr:Array Value}(hS:Sim ρ lab H w)(hF:a1F ρ lab w fr arr)(h:renum nr fr H=some (fr',H')) :
  ∃ρ' lab',Sim ρ' lab' H' w/\Ext lab w lab' w/\a0V nr ρ ρ'/\a1F ρ' lab' w fr' arr:=by
 unfold renum at h
 simp only[b4A,fF_eq,a7P]at h
 generalize hns:reach H 99 (List.range nr++fr.flatMap fun p=>Y3 dep p.2) []=ns at h
 have hn:ns.Nodup:=by rw[<-hns];exact a3l _ _ _ _ List.nodup_nil
 split at h
 ·rename_i fr2 H2 hm hp hr
  simp only[Option.some.injEq,Prod.mk.injEq]at h
  obtain⟨rfl,rfl⟩:=h
  obtain⟨hR,hS2,hE⟩:=hS.drop hn hp
  refine⟨_,_,hS2,hE,a9l hr,fun t=>?_⟩
  rcases a99 hm t with hu|hu
  ·rw[hu];exact .undef _
  ·exact Rel.ren hR dep hu (hF t)
 ·cases h
theorem b3m {f lp:Nat} {fr':Fr} {H':Hp} {arr:Array Value} (hS:Sim ρ lab H w) (hF:a1F ρ lab w fr arr) (h:b0G env f nr lp fr H = some (fr',H')) :
    ∃ρ' lab',Sim ρ' lab' H' w/\Ext lab w lab' w/\a0V nr ρ ρ'/\a1F ρ' lab' w fr' arr:=by
  unfold b0G at h
  simp only[b4A,fF_eq,a7P]at h
  generalize hfr1:b3Q (env.slk f lp) ((env.keep f lp).map fun s=>(s,look s fr))=fr1 at h
  have hS:=hS.a8X fr1 (env.slk f lp)
  generalize a8X fr1 (env.slk f lp) H=H at h hS
  generalize hns:reach H 99 (List.range nr++fr1.flatMap fun p=>Y3 dep p.2) []=ns at h
  have hn:ns.Nodup:=by rw[<-hns];exact a3l _ _ _ _ List.nodup_nil
  split at h
  · rename_i fr2 H2 hm hp hr
    obtain⟨hR,hS2,hE⟩:=hS.drop hn hp
    obtain⟨c1,c2,_⟩:=a6Z hp
    obtain⟨g1,g2⟩:=a7H (env.byref f) fr2 ns.length
    rw[<-c2]at h
    rw[<-c2]at *
    have hmf:=a7L (a11 (env.byref f) fr2 H2.length).1 (H2.length+(a11 (env.byref f) fr2 H2.length).2.length)
    have hmr:=a1X H2 (a4u (a11 (env.byref f) fr2 H2.length).1 (H2.length+(a11 (env.byref f) fr2 H2.length).2.length)).2
    obtain⟨ρ',k1,k2,k3,k4,k5,k6⟩:=hS2.a7U c1 g1 g2 hmf
    have hF2:a1F ρ' (lab.drop ns) w (a4u (a11 (env.byref f) fr2 H2.length).1 (H2.length+(a11 (env.byref f) fr2 H2.length).2.length)).1 arr:=fun t=>by
     have h1:Rel (ρ.sub ns) (lab.drop ns) w (look t fr2) (arr.getD t undef):=by
       rcases a99 hm t with hu|hu
       · rw[hu];exact .undef _
       · refine Rel.ren hR dep hu ?_
         rw[<-hfr1]
         refine b1P (env.slk f lp) t _ ?_
         rcases b4O (env.keep f lp) fr t with hv|hv
         · rw[hv];exact .undef _
         · rw[hv];exact hF t
     have h2:=b1n (env.byref f) k1 t _ fr2 H2.length k2 h1
     exact b3Y (Rho.le.refl _) t _ _ _ (fun j g3 g4=>k3 j g3 (by omega)) h2
    obtain⟨ρ2,m1,m2,m3,_⟩:=fullN_ok (b:=env.full) k4 k5 hF2
    split at h
    · obtain⟨ρ3,lab3,q1,q2,q3,q4⟩:=renum_ok m2 m3 h
      exact⟨ρ3,lab3,q1,hE.trans q2,((a9l hr).trans (a0V.of_le (k1.trans m1) nr) (Nat.le_refl _)).trans q3 (Nat.le_refl _),q4⟩
    · simp only[Option.some.injEq,Prod.mk.injEq]at h
      rw[h.2]at m2
      rw[h.1]at m3
      exact⟨ρ2,_,m2,hE,(a9l hr).trans (a0V.of_le (k1.trans m1) nr) (Nat.le_refl _),m3⟩
  · cases h
theorem b4F {v v':V}{x:Value}{H':Hp}(hS:Sim ρ lab H w)(hv:Rel ρ lab w v x)(h:finish nr v H=some (v',H')) :
  ∃ρ' lab',Sim ρ' lab' H' w/\Ext lab w lab' w/\a0V nr ρ ρ'/\Rel ρ' lab' w v' x/\Canon 0 H'/\nr<=H'.length:=by
 unfold finish at h
 simp only[b4A,b2R,a7P]at h
 generalize hns:reach H 99 (List.range nr++Y3 dep v) []=ns at h
 have hn:ns.Nodup:=by rw[<-hns];exact a3l _ _ _ _ List.nodup_nil
 split at h
 ·rename_i v2 H2 hm hp hr
  simp only[Option.some.injEq,Prod.mk.injEq]at h
  obtain⟨rfl,rfl⟩:=h
  obtain⟨hR,hS2,hE⟩:=hS.drop hn hp
  obtain⟨c1,c2,_⟩:=a6Z hp
  exact⟨_,_,hS2,hE,a9l hr,Rel.ren hR dep hm hv,c1,by rw[c2];exact b3I hr⟩
 ·cases h
theorem b4T {m:Nat->Option Nat}:∀{L:Hp} {i0:Nat} {H H4:Hp},Canon i0 L ->(∀i i' j o o',hget i L=some o->hget i' L=some o'->m i=some j->m i'=some j->i=i')->a0i m L H=some H4 ->
  (∀i o,hget i L=some o -> ∃j o',m i=some j/\a9B m o=some o'/\hget j H4=some o') /\ ∀j,(∀i o,hget i L=some o->m i≠some j)->hget j H4=hget j H
 | [],i0,H,H4,_,_,h=>by simp only[a0i]at h;cases h;exact⟨fun i o h=>(by cases h),fun _ _=>rfl⟩
 |(s,o)::r,i0,H,H4,hc,hinj,h=>by
  obtain⟨rfl,hc2⟩:=hc
  simp only[a0i]at h
  split at h
  ·rename_i j0 o0 hj0 ho0
   have hsr:∀i o,hget i r=some o->hget i ((s,o0)::r)=some o/\s≠i:=fun i o hi=>by
    have:=a1j hc2 i o hi
    have hb:Nat.beq s i=false:=by
     cases hb:Nat.beq s i with
     | true=>have:=Nat.eq_of_beq_eq_true hb;omega
     | false=>rfl
    exact⟨by simp only[hget,hb];exact hi,by omega⟩
   have hsr':∀i o1,hget i r=some o1->hget i ((s,o)::r)=some o1/\s≠i:=fun i o1 hi=>by
    have h1:=hsr i o1 hi
    simp only[hget]at h1 ⊢
    split
    ·rename_i hb
     exact absurd (Nat.eq_of_beq_eq_true hb) h1.2
    ·exact⟨hi,h1.2⟩
   have hhead:hget s ((s,o)::r)=some o:=by simp[hget]
   obtain⟨k1,k2⟩:=b4T hc2 (fun i i' j o1 o2 h1 h2=>hinj i i' j o1 o2 (hsr' i o1 h1).1 (hsr' i' o2 h2).1) h
   refine⟨fun i o1 hi=>?_,fun j hj=>?_⟩
   ·simp only[hget]at hi
    split at hi
    ·rename_i hb
     cases hi
     have:=Nat.eq_of_beq_eq_true hb
     subst this
     refine⟨j0,o0,hj0,ho0,?_⟩
     rw[k2 j0 (fun i' o' hi' hm=>(hsr' i' o' hi').2 (hinj s i' j0 o o' hhead (hsr' i' o' hi').1 hj0 hm)),q9,if_pos rfl]
    ·exact k1 i o1 hi
   ·rw[k2 j (fun i' o' hi'=>hj i' o' (hsr' i' o' hi').1),q9,if_neg]
    rintro rfl
    exact hj s o hhead hj0
  ·cases h
theorem b1d:∀{n k:Nat},a7n H k n=true -> ∀i,i<n->hget (k+i) H=none
 | 0,_,_,i,hi=>by omega
 | n+1,k,h,i,hi=>by
  simp only[a7n,Bool.and_eq_true]at h
  rcases Nat.lt_or_ge i n with h1|h1
  ·exact b1d h.2 i h1
  ·have:i=n:=by omega
   subst this
   cases hq:hget (k+i) H with
   | none=>rfl
   | some o=>rw[hq]at h;simp at h
def Rho.back (ρ ρ3:Rho)(H:Hp)(ns:List Nat)(k:Nat):Rho :=
  ⟨fun j=>match idx j ns with|some i=>ρ3.at_ i|none=>match hget j H with|some _=>ρ.at_ j|none=>if k<=j then ρ3.at_ (ns.length+(j-k))else none,
   fun j m=>match idx j ns with|some i=>ρ3.hd i m|none=>match hget j H with|some _=>ρ.hd j m|none=>if k<=j then ρ3.hd (ns.length+(j-k)) m else none⟩
def Lab.back (lab lab3:Lab)(ns:List Nat)(k:Nat):Lab:=fun b o=>match lab3 b o with
 | some (some i)=>(match H6 ns k i with|some j=>some (some j)|none=>none)
 | some none=>lab b o
 | none=>none
theorem b7f {ns:List Nat}{j:Nat}(h:∀i:Nat,ns[i]? ≠ some j):idx j ns=none:=by
 cases hq:idx j ns with
 | none=>rfl
 | some i=>exact absurd (a5S hq) (h i)
theorem b3i {ρn ρ3:Rho}{lab3:Lab}{w':World}{H3 H4:Hp}{ns:List Nat}{k nc:Nat}{v v4:V}{x:Value}(hS:Sim ρ lab H w)(hn:ns.Nodup)
  (hpick:∀i j:Nat,ns[i]? = some j->hget j H≠none) (hnc:ns.length<=nc) (hle:(ρ.sub ns).le ρn) (S3:Sim ρ3 lab3 H3 w') (E3:Ext (lab.sub ns) w lab3 w') (R3:a0V nc ρn ρ3) (c3:Canon 0 H3)
  (hlen:nc<=H3.length) (hv:Rel ρ3 lab3 w' v x) (hv4:a0e (H6 ns k) dep v=some v4) (hm:a0i (H6 ns k) H3 H=some H4) (hf:a7n H k (H3.length-ns.length)=true) :
  ∃ρ4 lab4,Sim ρ4 lab4 H4 w'/\Ext lab w lab4 w'/\ρ.le ρ4/\Rel ρ4 lab4 w' v4 x:=by
 have hfr:=b1d hf
 have hlt:∀i o,hget i H3=some o->i<H3.length:=fun i o h=>by have:=a1j c3 i o h;omega
 have hbn:∀i j,i<H3.length->H6 ns k i=some j ->(ns[i]? = some j/\i<ns.length/\idx j ns=some i)∨(ns.length<=i/\j=k+(i-ns.length)/\hget j H=none/\idx j ns=none):=by
  intro i j hi hb
  unfold H6 at hb
  split at hb
  ·rename_i j' hj'
   cases hb
   refine .inl ⟨hj',?_,b2g hn hj'⟩
   rcases Nat.lt_or_ge i ns.length with h|h
   ·exact h
   ·rw[List.getElem?_eq_none h]at hj';cases hj'
  ·rename_i hj'
   cases hb
   have hge:ns.length<=i:=by
    rcases Nat.lt_or_ge i ns.length with h|h
    ·rw[List.getElem?_eq_getElem h]at hj';cases hj'
    ·exact h
   have hnone:=hfr (i-ns.length) (by omega)
   exact .inr ⟨hge,rfl,hnone,b7f fun i' hi'=>hpick i' _ hi' hnone⟩
 have hinj:∀i i' j o o',hget i H3=some o->hget i' H3=some o'->H6 ns k i=some j->H6 ns k i'=some j->i=i':=by
  intro i i' j o o' h1 h2 b1 b2
  rcases hbn i j (hlt _ _ h1) b1 with⟨p1,p2,p3⟩ |⟨p1,p2,p3,p4⟩<;>rcases hbn i' j (hlt _ _ h2) b2 with⟨q1,q2,q3⟩ |⟨q1,q2,q3,q4⟩
  ·rw[p3]at q3;cases q3;rfl
  ·rw[p3]at q4;cases q4
  ·rw[p4]at q3;cases q3
  ·omega
 obtain⟨m1,m2⟩:=b4T c3 hinj hm
 have hat3:∀i x,ρ3.at_ i=some x->i<H3.length:=fun i x h=>by
  have:=S3.adom i x h
  cases hq:hget i H3 with
  | none=>exact absurd hq this
  | some o=>exact hlt i o hq
 have hhd3:∀i m x,ρ3.hd i m=some x->i<H3.length:=fun i m x h=>by
  obtain⟨e,m',h1,_⟩:=S3.hdom i m x h
  exact hlt i _ h1
 have hR:Ren (H6 ns k) ρ3 (ρ.back ρ3 H ns k) lab3 (lab.back lab3 ns k):=by
  refine⟨fun i j x hb hx=>?_,fun i j m x hb hx=>?_,fun b o hl=>by simp only[Lab.back,hl]⟩
  ·rcases hbn i j (hat3 i x hx) hb with⟨p1,p2,p3⟩ |⟨p1,p2,p3,p4⟩
   ·simp only[Rho.back,p3];exact hx
   ·simp only[Rho.back,p4,p3]
    rw[if_pos (by omega),p2,show ns.length+(k+(i-ns.length)-k)=i from by omega];exact hx
  ·rcases hbn i j (hhd3 i m x hx) hb with⟨p1,p2,p3⟩ |⟨p1,p2,p3,p4⟩
   ·simp only[Rho.back,p3];exact hx
   ·simp only[Rho.back,p4,p3]
    rw[if_pos (by omega),p2,show ns.length+(k+(i-ns.length)-k)=i from by omega];exact hx
 have hle4:ρ.le (ρ.back ρ3 H ns k):=by
  refine⟨fun j x hx=>?_,fun j m x hx=>?_⟩
  ·simp only[Rho.back]
   split
   ·rename_i i hi
    have hg:=a5S hi
    have hil:i<ns.length:=by
     rcases Nat.lt_or_ge i ns.length with h|h
     ·exact h
     ·rw[List.getElem?_eq_none h]at hg;cases hg
    refine R3.at_ i x (by omega) (hle.at_ i x ?_)
    simp only[Rho.sub,hg];exact hx
   ·split
    ·exact hx
    ·rename_i hq;exact absurd hq (hS.adom j x hx)
  ·simp only[Rho.back]
   split
   ·rename_i i hi
    have hg:=a5S hi
    have hil:i<ns.length:=by
     rcases Nat.lt_or_ge i ns.length with h|h
     ·exact h
     ·rw[List.getElem?_eq_none h]at hg;cases hg
    refine R3.hd i m x (by omega) (hle.hd i m x ?_)
    simp only[Rho.sub,hg];exact hx
   ·split
    ·exact hx
    ·rename_i hq
     obtain⟨e,m',h1,_⟩:=hS.hdom j m x hx
     rw[hq]at h1;cases h1
 have hsub0:=Ext.subL lab w ns
 have hsubc:∀b o,lab b o=some none->lab.sub ns b o=some none:=fun b o h=>by simp only[Lab.sub,h]
 have hown:∀b o i,lab.sub ns b o=some (some i) -> ¬ ∀k,lab b o≠some (some k):=fun b o i hi hl=>by
  cases hq:lab b o with
  | none=>simp only[Lab.sub,hq]at hi;cases hi
  | some y =>
   cases y with
   | none=>simp only[Lab.sub,hq]at hi;cases hi
   | some j=>exact hl j hq
 have hE4:Ext lab w (lab.back lab3 ns k) w':=by
  refine⟨E3.size,E3.os,E3.tape,E3.output,fun b o hb hl=>?_,fun b o=>⟨fun h=>?_,fun h=>?_⟩,fun b o hb hl=>E3.cl b o hb (fun i hi=>?_),fun b hb hl=>E3.blk b hb (fun o i hi=>?_)⟩
  ·have:=E3.lb b o hb ((hsub0 b o).2 hl)
   simp only[Lab.back,this]
  ·simp only[Lab.back]at h
   split at h
   ·split at h<;>cases h
   ·exact h
   ·cases h
  ·have:=(E3.ctx b o).2 (hsubc b o h)
   simp only[Lab.back,this,h]
  ·exact hown b o i hi hl
  ·exact hown b o i hi (hl o)
 have hold:∀j,(∀i o,hget i H3=some o->H6 ns k i≠some j)->hget j H≠none->idx j ns=none:=by
  intro j hno hj
  refine b7f fun i hi=>?_
  have hil:i<ns.length:=by
   rcases Nat.lt_or_ge i ns.length with h|h
   ·exact h
   ·rw[List.getElem?_eq_none h]at hi;cases hi
  obtain⟨o,ho⟩:=a9Z c3 (Nat.zero_le i) (by omega)
  refine hno i o ho ?_
  unfold H6;rw[hi]
 refine⟨ρ.back ρ3 H ns k,lab.back lab3 ns k,Sim.mk' (hS.kp.ext hE4) (fun j o hj=>?_) (fun j m y h=>?_) (fun j y h=>?_) (fun b o j hl=>?_),hE4,hle4,Rel.ren hR dep hv4 hv⟩
 ·by_cases hit:∃i o3,hget i H3=some o3/\H6 ns k i=some j
  ·obtain⟨i,o3,h1,h2⟩:=hit
   obtain⟨j',o',g1,g2,g3⟩:=m1 i o3 h1
   rw[h2]at g1;cases g1
   rw[hj]at g3;cases g3
   exact a3q.ren hR h2 (fun b p hl=>by simp only[Lab.back,hl,h2]) (S3.obj h1) g2
  ·have hno:∀i o,hget i H3=some o->H6 ns k i≠some j:=fun i o h1 h2=>hit ⟨i,o,h1,h2⟩
   have hj':=m2 j hno
   rw[hj]at hj'
   have hid:=hold j hno (by rw[<-hj'];simp)
   refine(hS.obj hj'.symm).carry hE4 hle4 (fun b p hq=>?_) (fun b ms c hq=>by
    have hsl:∀p,lab.sub ns b p=some none:=fun p=>by simp only[Lab.sub,hq.lab,hid]
    have h3:∀p,lab3 b p=some none:=fun p=>(E3.ctx b p).2 (hsl p)
    exact⟨fun p=>by simp only[Lab.back,h3];exact hq.lab p,(E3.blk b hq.lt (fun o i hi=>by rw[hsl]at hi;cases hi)).trans hq.blk⟩)
   obtain⟨y,hy⟩:=hq.cell
   have hb:=X3 hy
   have hsl:lab.sub ns b p=some none:=by simp only[Lab.sub,hq.lab,hid]
   have h3:=(E3.ctx b p).2 hsl
   obtain⟨f1,f2⟩:=E3.cl b p hb (fun i hi=>by rw[hsl]at hi;cases hi)
   exact⟨⟨by simp only[Lab.back,h3];exact hq.lab,f2.trans hq.free,y,f1.trans hy⟩,f1⟩
 ·simp only[Rho.back]at h
  have viaI:∀i,H6 ns k i=some j->ρ3.hd i m=some y -> ∃e m',hget j H4=some (.tip e m')/\m<=m':=by
   intro i hb hx
   obtain⟨e,m',g1,g2⟩:=S3.hdom i m y hx
   obtain⟨j',o',k1,k2,k3⟩:=m1 i _ g1
   rw[hb]at k1;cases k1
   simp only[a9B]at k2;cases k2
   exact⟨e,m',k3,g2⟩
  split at h
  ·rename_i i hi
   exact viaI i (by unfold H6;rw[a5S hi]) h
  ·rename_i hi
   split at h
   ·rename_i o ho
    obtain⟨e,m',g1,g2⟩:=hS.hdom j m y h
    have hno:∀i o,hget i H3=some o->H6 ns k i≠some j:=fun i o h1 h2=>by
     rcases hbn i j (hlt _ _ h1) h2 with⟨p1,p2,p3⟩ |⟨p1,p2,p3,p4⟩
     ·rw[hi]at p3;cases p3
     ·rw[ho]at p3;cases p3
    rw[m2 j hno]
    exact⟨e,m',g1,g2⟩
   ·split at h
    ·rename_i hk
     refine viaI (ns.length+(j-k)) ?_ h
     unfold H6
     rw[List.getElem?_eq_none (by omega)]
     simp only[Option.some.injEq];omega
    ·cases h
 ·simp only[Rho.back]at h
  have viaI:∀i,H6 ns k i=some j->ρ3.at_ i=some y->hget j H4≠none:=by
   intro i hb hx
   have:=S3.adom i y hx
   cases hq:hget i H3 with
   | none=>exact absurd hq this
   | some o =>
    obtain⟨j',o',k1,k2,k3⟩:=m1 i _ hq
    rw[hb]at k1;cases k1
    rw[k3];simp
  split at h
  ·rename_i i hi
   exact viaI i (by unfold H6;rw[a5S hi]) h
  ·rename_i hi
   split at h
   ·rename_i o ho
    have hno:∀i o,hget i H3=some o->H6 ns k i≠some j:=fun i o h1 h2=>by
     rcases hbn i j (hlt _ _ h1) h2 with⟨p1,p2,p3⟩ |⟨p1,p2,p3,p4⟩
     ·rw[hi]at p3;cases p3
     ·rw[ho]at p3;cases p3
    rw[m2 j hno,ho];simp
   ·split at h
    ·rename_i hk
     refine viaI (ns.length+(j-k)) ?_ h
     unfold H6
     rw[List.getElem?_eq_none (by omega)]
     simp only[Option.some.injEq];omega
    ·cases h
 ·simp only[Lab.back]at hl
  cases hq:lab3 b o with
  | none=>rw[hq]at hl;cases hl
  | some y=>exact S3.ldom b o y hq
end
end Go.Vm
namespace Go.Vm
theorem eqOwn_eq:∀{a b:Own},eqOwn a b=true->a=b
 | .sealed,b,h=>by cases b<;>first|rfl|cases h
 | .full,b,h=>by cases b<;>first|rfl|cases h
 | .nil,b,h=>by cases b<;>first|rfl|cases h
 | .tag g,b,h=>by cases b<;>first |(rw[Nat.eq_of_beq_eq_true h])|cases h
theorem b8X (a:Own):eqOwn a a=true:=by cases a<;>simp[eqOwn]
mutual
theorem b5B:∀(a b:V),eqV a b=true->a=b
 | .undef,b,h=>by cases b<;>first|rfl |(simp[eqV]at h)
 | .bool x,b,h=>by cases b<;>simp[eqV]at h ⊢ <;> exact h
 | .int k n,b,h=>by cases b<;>simp[eqV]at h ⊢ <;> exact h
 | .str x,b,h=>by cases b<;>simp[eqV]at h ⊢ <;> exact h
 | .nilptr,b,h=>by cases b<;>first|rfl |(simp[eqV]at h)
 | .ptr r o,b,h=>by cases b<;>simp[eqV]at h ⊢ <;> exact h
 | .cptr cs,b,h=>by
  cases b<;>simp[eqV]at h ⊢
  exact a7l cs _ h
 | .slice o n cs,b,h=>by
  cases b<;>simp[eqV]at h ⊢
  exact⟨eqOwn_eq h.1.1,h.1.2,a7l cs _ h.2⟩
 | .rslice r o n w,b,h=>by
  cases b<;>simp[eqV]at h ⊢
  exact⟨h.1.1.1,h.1.1.2,h.1.2,h.2⟩
 | .func f a c,b,h=>by
  cases b<;>simp[eqV]at h ⊢
  exact⟨h.1.1,a7l a _ h.1.2,a7l c _ h.2⟩
 | .nilFunc,b,h=>by cases b<;>first|rfl |(simp[eqV]at h)
 | .iface t v,b,h=>by
  cases b<;>simp[eqV]at h ⊢
  exact⟨h.1,b5B v _ h.2⟩
 | .nilIface,b,h=>by cases b<;>first|rfl |(simp[eqV]at h)
 | .opq,b,h=>by cases b<;>first|rfl |(simp[eqV]at h)
 | .map r,b,h=>by cases b<;>simp[eqV]at h ⊢ <;> exact h
 | .agg cs,b,h=>by
  cases b<;>simp[eqV]at h ⊢
  exact a7l cs _ h
 | .tuple cs,b,h=>by
  cases b<;>simp[eqV]at h ⊢
  exact a7l cs _ h
theorem a7l:∀(a b:List V),eqL a b=true->a=b
 | [],b,h=>by cases b<;>first|rfl |(simp[eqL]at h)
 | x::r,b,h=>by
  cases b<;>simp[eqL]at h ⊢
  exact⟨b5B x _ h.1,a7l r _ h.2⟩
end
mutual
theorem b2M:∀a:V,eqV a a=true
 | .undef | .bool _ | .int _ _ | .str _ | .nilptr | .ptr _ _ | .rslice _ _ _ _ | .nilFunc | .nilIface | .opq | .map _=>by simp[eqV]
 | .cptr cs | .agg cs | .tuple cs=>by simp[eqV,a6D cs]
 | .slice o n cs=>by simp[eqV,b8X,a6D cs]
 | .func f a c=>by simp[eqV,a6D a,a6D c]
 | .iface t v=>by simp[eqV,b2M v]
theorem a6D:∀a:List V,eqL a a=true
 | []=>by simp[eqL]
 | x::r=>by simp[eqL,b2M x,a6D r]
end
theorem b65:∀a:List (V×V),eqE a a=true
 | []=>rfl
 |(a,b)::r=>by simp[eqE,b2M,b65 r]
theorem eqE_eq:∀{a b:List (V×V)},eqE a b=true->a=b
 | [],b,h=>by cases b<;>first|rfl |(simp[eqE]at h)
 |(x,y)::r,b,h=>by
  cases b with
  | nil=>simp[eqE]at h
  | cons z s =>
   obtain⟨c,d⟩:=z
   simp only[eqE,Bool.and_eq_true]at h
   rw[b5B x _ h.1.1,b5B y _ h.1.2,eqE_eq h.2]
theorem b66 (a:Option Obj):eqO a a=true:=by
 cases a with
 | none=>rfl
 | some x=>cases x<;>simp[eqO,a6D,b65]
theorem eqO_eq {a b:Option Obj}(h:eqO a b=true):a=b:=by
 cases a with
 | none=>cases b with
  | none=>rfl
  | some y=>cases y<;>simp[eqO]at h
 | some x=>cases b with
  | none=>cases x<;>simp[eqO]at h
  | some y =>
   cases x<;>cases y<;>simp[eqO]at h ⊢
   ·exact a7l _ _ h
   ·exact⟨h.1,a7l _ _ h.2⟩
   ·exact h
   ·exact eqE_eq h
theorem b22 {k:Nat}{o:Obj}:∀{H:Hp},hget k H=some o -> ∃p∈H,p.1=k
 |(j,x)::r,h=>by
  simp only[hget]at h
  split at h
  ·rename_i hb;exact⟨(j,x),by simp,Nat.eq_of_beq_eq_true hb⟩
  ·obtain⟨p,h1,h2⟩:=b22 h
   exact⟨p,by simp[h1],h2⟩
theorem c1M {A B:Hp}(h:b3L A B=true)(k:Nat):hget k A=hget k B:=by
 simp only[b3L,Bool.and_eq_true,List.all_eq_true]at h
 cases ha:hget k A with
 | some o =>
  obtain⟨p,h1,rfl⟩:=b22 ha
  rw[<-ha]
  exact eqO_eq (h.1 p h1)
 | none=>cases hb:hget k B with
  | none=>rfl
  | some o =>
   obtain⟨p,h1,rfl⟩:=b22 hb
   have:=eqO_eq (h.2 p h1)
   rw[ha,hb]at this;cases this
theorem b75 {A B:Hp}(h:∀k,hget k A=hget k B):b3L A B=true:=by
 simp only[b3L,Bool.and_eq_true,List.all_eq_true]
 exact⟨fun p _=>by rw[h];exact b66 _,fun p _=>by rw[h];exact b66 _⟩
theorem b9I (A:Hp):b3L A A=true:=b75 fun _=>rfl
end Go.Vm
namespace Go.Vm
section
variable {P:Program} {T:List (Nat×Ty)} {ρ ρ':Rho} {lab:Lab} {w:World} {H:Hp} {fr:Fr} {a:Act} {n nr:Nat} {env:Env} {orc:Orc}
theorem Rel.b3P {v:V}{x:Value}(h:Rel ρ lab w v x):Rel ρ lab w (b3P v) x:=by
 cases v with
 | tuple vs =>
  cases h with
  | tuple _ xs h1 h2 =>
   have:=b9C (ρ:=ρ) (lab:=lab) (w:=w) (f:=a6b) (fun _ _ h=>h.b0N) ⟨h1,h2⟩
   exact .tuple _ xs this.1 this.2
 | _=>exact h.b0N
theorem G9.b5k {vs:List V}{xs:List Value}(h:G9 ρ lab w vs xs):G9 ρ lab w (vs.map a6b) xs:=b9C (fun _ _ h=>h.b0N) h
theorem G9.c01 {m:Nat->Bool}:∀{vs:List V} {i:Nat} {xs:List Value},G9 ρ lab w vs xs->G9 ρ lab w (maskL m i vs) xs
 | [],_,_,h=>h
 | v::r,i,xs,h=>by
  obtain⟨x,xr,rfl,h1,h2⟩:=A9.1 h
  refine A9.2 ⟨x,xr,rfl,?_,G9.c01 h2⟩
  cases m i with
  | true=>exact h1
  | false=>exact h1.a4v
theorem G9.c0Z {m:Nat->Bool}:∀{vs:List V} {i:Nat} {xs:List Value},G9 ρ lab w vs xs->G9 ρ lab w (maskG m i vs) xs
 | [],_,_,h=>h
 | v::r,i,xs,h=>by
  obtain⟨x,xr,rfl,h1,h2⟩:=A9.1 h
  refine A9.2 ⟨x,xr,rfl,?_,G9.c0Z h2⟩
  cases m i with
  | true=>exact h1
  | false=>exact h1.b0N
theorem Rel.b3e {m:Nat->Bool}{i:Nat}{v:V}{x:Value}(h:Rel ρ lab w v x):Rel ρ lab w (b3e m i v) x:=by
 cases v with
 | agg cs=>cases h with|agg _ xs h1 h2=>have:=G9.c01 (ρ:=ρ) (lab:=lab) (w:=w) (m:=m) (i:=i) ⟨h1,h2⟩;exact .agg _ xs this.1 this.2
 | _ =>
  unfold Vm.b3e
  cases m i with
  | true=>exact h
  | false=>exact h.a4v
theorem G9.c02 {m:Nat->Bool}:∀{vs:List V} {i:Nat} {xs:List Value},G9 ρ lab w vs xs->G9 ρ lab w (maskT m i vs) xs
 | [],_,_,h=>h
 | v::r,i,xs,h=>by
  obtain⟨x,xr,rfl,h1,h2⟩:=A9.1 h
  exact A9.2 ⟨x,xr,rfl,h1.b3e,G9.c02 h2⟩
theorem Rel.b3f {m:Nat->Bool}{v:V}{x:Value}(h:Rel ρ lab w v x):Rel ρ lab w (b3f m v) x:=by
 cases v with
 | tuple vs=>cases h with|tuple _ xs h1 h2=>have:=G9.c02 (ρ:=ρ) (lab:=lab) (w:=w) (m:=m) (i:=0) ⟨h1,h2⟩;exact .tuple _ xs this.1 this.2
 | _=>exact h.b3e
theorem b1t (v:V)(k:Nat):k <=(b1s v k).2:=by
 unfold b1s
 split
 ·exact a3o _ _
 ·exact Nat.le_succ _
 ·exact Nat.le_refl _
theorem b0l:∀(vs:List V) (k:Nat),k <=(b1R vs k).2
 | [],k=>Nat.le_refl _
 | v::r,k=>Nat.le_trans (b1t v k) (b0l r _)
theorem c1W (v:V)(k:Nat):k <=(tagD v k).2:=by
 cases v with
 | tuple vs=>exact b0l vs k
 | _=>exact b1t _ k
theorem Rel.b1s (hρ:ρ.le ρ'){v:V}{k:Nat}{x:Value}(hk:∀j,k<=j->j<(b1s v k).2->ρ'.hd j 0=some (none,0))(h:Rel ρ lab w v x):Rel ρ' lab w (b1s v k).1 x:=by
 unfold Vm.b1s at hk ⊢
 split
 ·rename_i cs
  cases h with
  | agg _ xs h1 h2=>have:=a7f (ρ:=ρ) (ρ':=ρ') (lab:=lab) (w:=w) hρ cs k xs hk ⟨h1,h2⟩;exact .agg _ xs this.1 this.2
 ·exact h.tag (hk k (Nat.le_refl _) (Nat.lt_succ_self _))
 ·exact h.up hρ
theorem b8b (hρ:ρ.le ρ'):∀(vs:List V) (k:Nat) (xs:List Value),(∀j,k<=j->j<(b1R vs k).2->ρ'.hd j 0=some (none,0))->G9 ρ lab w vs xs->G9 ρ' lab w (b1R vs k).1 xs
 | [],k,xs,_,h=>h.up hρ
 | v::r,k,xs,hk,h=>by
  obtain⟨x,xr,rfl,h1,h2⟩:=A9.1 h
  simp only[b1R]at hk ⊢
  have m1:=b1t v k
  have m2:=b0l r (Vm.b1s v k).2
  exact A9.2 ⟨x,xr,rfl,h1.b1s hρ (fun j h3 h4=>hk j h3 (by omega)),b8b hρ r _ xr (fun j h3 h4=>hk j (by omega) h4) h2⟩
theorem Rel.tagD (hρ:ρ.le ρ'){v:V}{k:Nat}{x:Value}(hk:∀j,k<=j->j<(tagD v k).2->ρ'.hd j 0=some (none,0))(h:Rel ρ lab w v x):Rel ρ' lab w (tagD v k).1 x:=by
 cases v with
 | tuple vs=>cases h with|tuple _ xs h1 h2=>have:=b8b (ρ:=ρ) (ρ':=ρ') (lab:=lab) (w:=w) hρ vs k xs hk ⟨h1,h2⟩;exact .tuple _ xs this.1 this.2
 | _=>exact Rel.b1s hρ hk h
theorem c1X {b:Bool}{v:V}{x:Value}(hc:Canon 0 H)(hS:Sim ρ lab H w)(hv:Rel ρ lab w v x) :
  ∃ρ',ρ.le ρ'/\Sim ρ' lab (a1x b v H).2 w/\Rel ρ' lab w (a1x b v H).1 x/\Canon 0 (a1x b v H).2/\H.length <=(a1x b v H).2.length:=by
 cases b with
 | false=>exact⟨ρ,.refl _,hS,hv,hc,Nat.le_refl _⟩
 | true =>
  simp only[a1x]
  have hm:=c1W v H.length
  obtain⟨ρn,k1,_,k3,k4,k5,k6⟩:=hS.a7U hc (G:=[]) (k2:=(tagD v H.length).2) trivial (fun j o h=>by cases h) (by rw[List.length_nil];exact hm)
  simp only[List.length_nil,Nat.add_zero,List.append_nil]at k3 k4 k5 k6
  have hmr:=a1X H (tagD v H.length).2
  exact⟨ρn,k1,k4,hv.tagD k1 (fun j h1 h2=>k3 j h1 (by omega)),k5,k6⟩
theorem Sim.freeze (hS:Sim ρ lab H w){k e n cap:Nat}{wh:Bool}{cs:List V}{ao:Option Addr}(hk:hget k H=some (.grow e cs))(hv:Rel ρ lab w (.rslice k 0 n wh) (.slice ao n cap)) :
  ∃lab',Ext lab w lab' w/\Sim ρ lab' (hset k .gone H) w/\Rel ρ lab' w (.slice .sealed n (cs.take (n*e))) (.slice ao n cap):=by
 let lab':Lab:=fun b o=>match lab b o with
  | some (some j)=>if j=k then none else some (some j)
  | r=>r
 have e0:∀b o,lab b o=none->lab' b o=none:=fun b o h=>by simp only[lab',h]
 have e1:∀b o,lab' b o=some none↔lab b o=some none:=fun b o=>by
  simp only[lab']
  split
  ·rename_i j hj
   split<;>simp[hj]
  ·exact .rfl
 have e2:∀b o,lab b o=some (some k)->lab' b o=none:=fun b o h=>by simp only[lab',h,if_pos]
 have e3:∀b o j,lab b o=some (some j)->j≠k->lab' b o=some (some j):=fun b o j h hj=>by simp only[lab',h,if_neg hj]
 have e4:∀b o j,lab' b o=some j -> ∃j,lab b o=some j:=fun b o j h=>by
  cases hl:lab b o with
  | none=>rw[e0 _ _ hl]at h;cases h
  | some i=>exact⟨i,rfl⟩
 have hE:Ext lab w lab' w:=⟨Nat.le_refl _,rfl,rfl,rfl,fun b o _ h=>e0 b o h,e1,fun _ _ _ _=>⟨rfl,rfl⟩,fun _ _ _=>rfl⟩
 have hO:∀{j b o},j≠k->a04 lab w j b o->a04 lab' w j b o:=fun hj h=>⟨e3 _ _ _ h.lab hj,h.free,h.cell⟩
 have hg:∀{j o},hget j (hset k .gone H)=some o->o ≠ .gone->j≠k/\hget j H=some o:=fun{j o} h ho=>by
  by_cases hj:j=k
  ·subst hj;rw[q9,if_pos rfl]at h;cases h;exact absurd rfl ho
  ·rw[q9,if_neg hj]at h;exact⟨hj,h⟩
 refine⟨lab',hE,⟨hS.kp.ext hE,?_,?_,?_,?_,?_,?_,?_⟩,?_⟩
 ·intro j c h
  obtain⟨hj,h⟩:=hg h (by simp)
  obtain⟨b,o,xs,h1,h2,h3⟩:=hS.row j c h
  exact⟨b,o,xs,h1,h2.ext hE (.refl _),fun i x hx=>⟨hO hj (h3 i x hx).1,(h3 i x hx).2⟩⟩
 ·intro j e c h
  obtain⟨hj,h⟩:=hg h (by simp)
  obtain⟨base,cc,xs,h1,h2,h3,h4,h5,h6,h7⟩:=hS.grow j e c h
  exact⟨base,cc,xs,h1,h2.ext hE (.refl _),h3,h4,h5,h6,fun b o hb=>⟨fun i hi=>hO hj ((h7 b o hb).1 i hi),(h7 b o hb).2⟩⟩
 ·intro j e m h
  obtain⟨hj,h⟩:=hg h (by simp)
  obtain⟨a,c,h1,h2,h3,h4,h5⟩:=hS.tip j e m h
  exact⟨a,c,h1,h2,h3,h4,fun q hq=>⟨(h5 q hq).1,fun i hi hi2=>hO hj ((h5 q hq).2 i hi hi2)⟩⟩
 ·intro j es h
  obtain⟨hj,h⟩:=hg h (by simp)
  obtain⟨b,ms,c,h1,h2,h3⟩:=hS.mp j es h
  exact⟨b,ms,c,h1,h2.ext hE (.refl _),fun o=>e3 _ _ _ (h3.lab o) hj,h3.blk⟩
 ·intro j m x h
  obtain⟨e,m2,h1,h2⟩:=hS.hdom j m x h
  refine⟨e,m2,?_,h2⟩
  by_cases hj:j=k
  ·subst hj;rw[hk]at h1;cases h1
  ·rw[q9,if_neg hj];exact h1
 ·intro j x h
  by_cases hj:j=k
  ·subst hj;rw[q9,if_pos rfl];simp
  ·rw[q9,if_neg hj];exact hS.adom j x h
 ·intro b o j h
  obtain⟨i,hi⟩:=e4 b o j h
  exact hS.ldom b o i hi
 ·obtain⟨base,c,xs,h1,h2,h3,h4,h5,h6,h7⟩:=hS.grow k e cs hk
  cases hv with
  | rslice _ _ _ _ base' g _ _ g1 g2 g3 g4 g5 =>
   rw[h1]at g1
   cases g1
   have hx:∀(i:Nat) (x:Value),(xs.take (n*e))[i]? = some x->xs[i]? = some x:=fun i x h=>by
    rw[List.getElem?_take]at h
    split at h
    ·exact h
    ·cases h
   have hc:∀(i:Nat) (v:V),(cs.take (n*e))[i]? = some v->cs[i]? = some v:=fun i x h=>by
    rw[List.getElem?_take]at h
    split at h
    ·exact h
    ·cases h
   cases hb:base with
   | none =>
    have hn0:n=0:=by
     rcases Nat.eq_zero_or_pos n with h|h
     ·exact h
     ·have:=g3 (.inl h);rw[hb]at this;exact absurd this (g5 h)
    subst hn0
    refine .slice .sealed 0 _ [] 0 0 ao cap (by simp) g2 (fun h=>absurd h (by omega)) (fun _=>by simp) (fun i x h=>by simp at h) (fun i v x _ h=>by simp at h) trivial (fun x h=>by simp at h) (fun v h=>by simp at h)
   | some p =>
    obtain⟨b,o⟩:=p
    obtain⟨h8,h9⟩:=h7 b o hb
    refine .slice .sealed n _ (xs.take (n*e)) b o ao cap (by rw[List.length_take,List.length_take,h2.1]) g2 (fun hn=>?_) (fun h=>by subst h;simp) (fun i x h=>?_) (fun i v x hv h=>?_) trivial (fun x h=>h5 x (List.mem_of_mem_take h)) (fun v h=>h6 v (List.mem_of_mem_take h))
    ·have:=g3 (.inl hn)
     rw[hb]at this
     simpa using this
    ·have hxs:=hx i x h
     have hlt:i<xs.length:=by
      rcases Nat.lt_or_ge i xs.length with h|h
      ·exact h
      ·rw[List.getElem?_eq_none h]at hxs;cases hxs
     exact⟨e2 _ _ (h8 i (by rw[h2.1]at hlt;omega)).lab,h9 i x hxs⟩
    ·exact(h2.2 i v x (hc i v hv) (hx i x h)).ext hE (.refl _)
theorem c0l (hS:Sim ρ lab H w){v:V}{x:Value}(hv:Rel ρ lab w v x):∃lab',Ext lab w lab' w/\Sim ρ lab' (frz1 v H).2 w/\Rel ρ lab' w (frz1 v H).1 x:=by
 unfold frz1
 split
 ·split
  ·rename_i hk
   cases hv with
   | rslice _ _ _ _ base' g ao cap g1 g2 g3 g4 g5=>exact hS.freeze hk (.rslice _ _ _ _ base' g ao cap g1 g2 g3 g4 g5)
  ·exact⟨lab,.refl _ _,hS,hv⟩
 ·exact⟨lab,.refl _ _,hS,hv⟩
theorem c0o:∀(vs:List V) {lab:Lab} {H:Hp} {xs:List Value},Sim ρ lab H w->G9 ρ lab w vs xs -> ∃lab',Ext lab w lab' w/\Sim ρ lab' (b1U vs H).2 w/\G9 ρ lab' w (b1U vs H).1 xs
 | [],lab,H,xs,hS,h=>⟨lab,.refl _ _,hS,h⟩
 | v::r,lab,H,xs,hS,h=>by
  obtain⟨x,xr,rfl,h1,h2⟩:=A9.1 h
  obtain⟨l1,k1,k2,k3⟩:=c0l hS h1
  obtain⟨l2,m1,m2,m3⟩:=c0o r k2 (h2.ext k1 (.refl _))
  exact⟨l2,k1.trans m1,m2,A9.2 ⟨x,xr,rfl,k3.ext m1 (.refl _),m3⟩⟩
theorem c0m (hS:Sim ρ lab H w){v:V}{x:Value}(hv:Rel ρ lab w v x):∃lab',Ext lab w lab' w/\Sim ρ lab' (frzA v H).2 w/\Rel ρ lab' w (frzA v H).1 x:=by
 unfold frzA
 split
 ·cases hv with
  | agg _ xs h1 h2 =>
   obtain⟨l,k1,k2,k3⟩:=c0o _ hS ⟨h1,h2⟩
   exact⟨l,k1,k2,.agg _ xs k3.1 k3.2⟩
 ·exact c0l hS hv
theorem c0p:∀(vs:List V) {lab:Lab} {H:Hp} {xs:List Value},Sim ρ lab H w->G9 ρ lab w vs xs -> ∃lab',Ext lab w lab' w/\Sim ρ lab' (frzT vs H).2 w/\G9 ρ lab' w (frzT vs H).1 xs
 | [],lab,H,xs,hS,h=>⟨lab,.refl _ _,hS,h⟩
 | v::r,lab,H,xs,hS,h=>by
  obtain⟨x,xr,rfl,h1,h2⟩:=A9.1 h
  obtain⟨l1,k1,k2,k3⟩:=c0m hS h1
  obtain⟨l2,m1,m2,m3⟩:=c0p r k2 (h2.ext k1 (.refl _))
  exact⟨l2,k1.trans m1,m2,A9.2 ⟨x,xr,rfl,k3.ext m1 (.refl _),m3⟩⟩
theorem c0n {b:Bool}(hS:Sim ρ lab H w){v:V}{x:Value}(hv:Rel ρ lab w v x):∃lab',Ext lab w lab' w/\Sim ρ lab' (a7T b v H).2 w/\Rel ρ lab' w (a7T b v H).1 x:=by
 cases b with
 | false=>exact⟨lab,.refl _ _,hS,hv⟩
 | true =>
  unfold a7T
  simp only
  split
  ·cases hv with
   | tuple _ xs h1 h2 =>
    obtain⟨l,k1,k2,k3⟩:=c0p _ hS ⟨h1,h2⟩
    exact⟨l,k1,k2,.tuple _ xs k3.1 k3.2⟩
  ·exact c0m hS hv
theorem b1h {f nr lp:Nat}{fr fr':Fr}{H':Hp}{arr:Array Value}(hS:Sim ρ lab H w)(hF:a1F ρ lab w fr arr)(h:normal env f nr lp fr H=some (fr',H')) :
  ∃ρ' lab',Sim ρ' lab' H' w/\Ext lab w lab' w/\a0V nr ρ ρ'/\a1F ρ' lab' w fr' arr:=by
 unfold normal at h
 split at h
 ·exact b3m hS hF h
 ·rename_i s hs
  simp only[b2R,a7P]at h
  obtain⟨l1,k1,k2,k3⟩:=c0n (b:=true) hS (hF s)
  have hF2:a1F ρ l1 w ((s,(a7T true (look s fr) H).1)::fr) arr:=fun t=>by
   rw[a9f]
   split
   ·rename_i he
    subst he
    exact k3
   ·exact(hF t).ext k1 (.refl _)
  obtain⟨ρ',lab',g1,g2,g3,g4⟩:=b3m k2 hF2 h
  exact⟨ρ',lab',g1,k1.trans g2,g3,g4⟩
theorem a6L {α β:Type}{f g:α->Option β}(hfg:∀a b,f a=some b->g a=some b):∀{l:List α} {r:List β},Y5 f l=some r->Y5 g l=some r
 | [],r,h=>h
 | a::t,r,h=>by
  simp only[Y5]at h ⊢
  cases h1:f a with
  | none=>rw[h1]at h;cases h
  | some b =>
   rw[h1]at h
   simp only at h
   rw[hfg a b h1]
   cases h2:Y5 f t with
   | none=>rw[h2]at h;cases h
   | some u=>rw[h2]at h;rw[a6L hfg h2];exact h
theorem b5b {m m':Nat->Option Nat}(hm:∀k i,m k=some i->m' k=some i):∀(d:Nat) {v v':V},a0e m d v=some v'->a0e m' d v=some v'
 | 0,v,v',h=>by cases h
 | d+1,v,v',h=>by
  have ih:∀a b,a0e m d a=some b->a0e m' d a=some b:=fun a b h=>b5b hm d h
  cases v with
  | ptr r o=>simp only[a0e]at h ⊢;(split at h;(· rename_i hr;rw[hm _ _ hr];exact h);(· cases h))
  | rslice r o n w=>simp only[a0e]at h ⊢;(split at h;(· rename_i hr;rw[hm _ _ hr];exact h);(· cases h))
  | map r=>simp only[a0e]at h ⊢;(split at h;(· rename_i hr;rw[hm _ _ hr];exact h);(· cases h))
  | slice o n cs =>
   cases o with
   | tag g=>simp only[a0e]at h ⊢;(split at h;(· rename_i hr;rw[hm _ _ hr];exact h);(· cases h))
   | _=>exact h
  | func fn a b =>
   simp only[a0e]at h ⊢
   split at h
   ·rename_i h1 h2;rw[a6L ih h1,a6L ih h2];exact h
   ·cases h
  | iface t v =>
   simp only[a0e]at h ⊢
   split at h
   ·rename_i h1;rw[ih _ _ h1];exact h
   ·cases h
  | agg cs =>
   simp only[a0e]at h ⊢
   split at h
   ·rename_i h1;rw[a6L ih h1];exact h
   ·cases h
  | tuple cs =>
   simp only[a0e]at h ⊢
   split at h
   ·rename_i h1;rw[a6L ih h1];exact h
   ·cases h
  | _=>exact h
def Done (ρ:Rho)(lab:Lab)(H:Hp)(w:World)(v:V)(H':Hp)(x:Value)(w':World):Prop :=
 ∃ρ' lab',Sim ρ' lab' H' w'/\Ext lab w lab' w'/\a0V H.length ρ ρ'/\Rel ρ' lab' w' v x/\Canon 0 H'/\H.length<=H'.length
def a5c (ρ:Rho)(lab:Lab)(H:Hp)(w:World):Out->Ending->World->Prop
 | .ret v H',.returned x,w'=>Done ρ lab H w v H' x w'
 | .pan v H',.panicked ch,w'=>∃x,ch=[{v:=x,recovered:=false}]/\Done ρ lab H w v H' x w'
 | _,_,_=>False
structure a6e (P:Program)(orc:Orc):Prop where
 call:∀g args H out,orc (.call g args) H=some out -> ∀ρ lab w xs,Canon 0 H->Sim ρ lab H w->G9 ρ lab w args xs->Calls P g xs.toArray w (a5c ρ lab H w out)
 known:∀g args H out,orc (.call g args) H=some out -> ∃fn c,P.funcs[g]? = some fn/\(fn.name == "runtime.NumGoroutine")=false/\fn.body=some c
def Left (ρ:Rho)(lab:Lab)(w:World)(v:V)(H':Hp)(x:Value)(w':World):Prop:=∃ρ' lab',Sim ρ' lab' H' w'/\Ext lab w lab' w'/\ρ.le ρ'/\Rel ρ' lab' w' v x
def b2d (ρ:Rho)(lab:Lab)(w:World):OpR->Ending->World->Prop
 | .val v H',.returned x,w'=>Left ρ lab w v H' x w'
 | .pan v H',.panicked ch,w'=>∃x,ch=[{v:=x,recovered:=false}]/\Left ρ lab w v H' x w'
 | _,_,_=>False
theorem b1O (hO:a6e P orc)(hS:Sim ρ lab H w){g:Nat}{args:List V}{xs:List Value}{r:OpR}(hx:G9 ρ lab w args xs)(h:a0D orc g args H=some r) :
  Calls P g xs.toArray w (b2d ρ lab w r) /\ ∃fn c,P.funcs[g]? = some fn/\(fn.name == "runtime.NumGoroutine")=false/\fn.body=some c:=by
 unfold a0D at h
 split at h
 ·cases h
 ·rename_i M8 hm
  split at h
  ·rename_i v ho
   split at h
   ·rename_i v4 hv4
    cases h
    have hp:a3k H (idx · []) [] 0=some []:=rfl
    have hS2:=hS.sub List.nodup_nil hp
    have hi:(idx · [])=a2g:=rfl
    rw[<-hi]at hm
    have hx2:G9 (ρ.sub []) (lab.sub []) w M8 xs:=hx.b5k.ren (b0M []) hm
    refine⟨(hO.call _ _ _ _ ho (ρ.sub []) (lab.sub []) w xs trivial hS2 hx2).mono (fun e w' he=>?_),hO.known _ _ _ _ ho⟩
    cases e with
    | returned x =>
     obtain⟨ρ3,lab3,S3,E3,R3,hv3,c4,hl⟩:=he
     have hR:Ren a2g ρ3 ρ3 lab3 lab3:=⟨fun _ _ _ h=>(by cases h),fun _ _ _ _ h=>(by cases h),fun _ _ h=>h⟩
     have hv5:=Rel.ren hR dep hv4 hv3
     have hR2:∀k i,a2g k=some i->H6 [] 0 k=some i:=fun _ _ h=>(by cases h)
     have hv6:a0e (H6 [] 0) dep v=some v4:=b5b hR2 dep hv4
     exact b3i (k:=0) hS List.nodup_nil (fun i j hj=>by simp at hj) (Nat.zero_le 0) (.refl _) S3 E3 R3 c4 hl hv3 hv6 rfl rfl
    | panicked ch=>exact he.elim
    | outgrown=>exact he.elim
   ·cases h
  ·cases h
theorem b7c {H3:Hp}{k m:Nat}(h:a1S H H3 k m=true):a7n H k (H3.length-m)=true:=by
 simp only[a1S,Bool.and_eq_true]at h;exact h.2
theorem a9Y (hO:a6e P orc) (hS:Sim ρ lab H w) {k g:Nat} {args:List V} {xs:List Value} {r:OpR} (hx:G9 ρ lab w args xs) (h:M9 env orc k g args H = some r) :
    Calls P g xs.toArray w (b2d ρ lab w r) /\ ∃fn c,P.funcs[g]? = some fn/\(fn.name == "runtime.NumGoroutine")=false/\fn.body=some c:=by
  unfold M9 at h
  split at h
  · exact b1O hO hS hx h
  simp only at h
  have hx1:G9 ρ lab w (a0Y (env.argTags g) (env.a4x g) args) xs:=by
    unfold a0Y
    split
    · exact hx.c0Z
    · exact hx.b5k
  generalize a0Y (env.argTags g) (env.a4x g) args=b2C at h hx1
  generalize hns:reach H 99 (b2C.flatMap (Y3 dep)) []=ns at h
  have hn:ns.Nodup:=by rw[<-hns];exact a3l _ _ _ _ List.nodup_nil
  split at h
  · rename_i M8 H2 hm hp
    obtain⟨c1,c2,c3⟩:=a6Z hp
    have hS2:=hS.sub hn hp
    have hx2:G9 (ρ.sub ns) (lab.sub ns) w M8 xs:=hx1.ren (b0M ns) hm
    have hk2:ns.length <=(a1E (env.argTags g) M8 ns.length).2:=by
      unfold a1E
      split
      · exact a3o _ _
      · exact Nat.le_refl _
    have htg:∀ ρn:Rho,(ρ.sub ns).le ρn -> (∀ j,ns.length <= j -> j < (a1E (env.argTags g) M8 ns.length).2 -> ρn.hd j 0 = some (none,0)) ->
        G9 ρn (lab.sub ns) w (a1E (env.argTags g) M8 ns.length).1 xs:=by
      intro ρn hle hh
      unfold a1E at hh ⊢
      split at hh
      · exact a7f hle _ _ _ hh hx2
      · exact hx2.up hle
    generalize a1E (env.argTags g) M8 ns.length=aa at h hk2 htg
    have hmr:=a1X H2 aa.2
    obtain⟨ρn,k1,_,k3,k4,k5,k6⟩:=hS2.a7U c1 (G:=[]) (k2:=aa.2) trivial (fun j o h=>by cases h) (by rw[List.length_nil,c2];exact hk2)
    simp only[List.length_nil,Nat.add_zero,List.append_nil,c2]at k3 k4 k5 k6
    generalize hHc:(L9 H2 aa.2).1++a9D ns.length ((L9 H2 aa.2).2-ns.length)=Hc at h k4 k5 k6
    have hx3:=htg ρn k1 (fun j h1 h2=>k3 j h1 (by omega))
    obtain⟨ρf,f1,f2,f3,f4,f5⟩:=fullC_ok (b:=env.full) k4 k5 hx3
    have k4:=f2;have k5:=f3;have k1:=k1.trans f1;have hx3:=f4;have k6:=Nat.le_trans k6 f5
    generalize a8y env.full aa.1 Hc=cc at h k4 k5 hx3 k6
    have hpick:∀i j:Nat,ns[i]? = some j->hget j H≠none:=fun i j hj=>by
      obtain⟨o,o',g1,_⟩:=c3 i j hj
      rw[g1];simp
    split at h
    · rename_i v H3 ho
      split at h
      · rename_i v4 H4 hv4 hm4
        split at h
        · rename_i hf
          cases h
          refine⟨(hO.call _ _ _ _ ho ρf (lab.sub ns) w xs k5 k4 hx3).mono (fun e w' he=>?_),hO.known _ _ _ _ ho⟩
          cases e with
          | returned x =>
            obtain⟨ρ3,lab3,S3,E3,R3,hv3,c4,hl⟩:=he
            exact b3i hS hn hpick k6 k1 S3 E3 R3 c4 hl hv3 hv4 hm4 (b7c hf)
          | panicked ch=>exact he.elim
          | outgrown=>exact he.elim
        · cases h
      · cases h
    · rename_i v H3 ho
      split at h
      · rename_i v4 H4 hv4 hm4
        split at h
        · rename_i hf
          cases h
          refine⟨(hO.call _ _ _ _ ho ρf (lab.sub ns) w xs k5 k4 hx3).mono (fun e w' he=>?_),hO.known _ _ _ _ ho⟩
          cases e with
          | returned x=>exact he.elim
          | panicked ch =>
            obtain⟨x,hch,ρ3,lab3,S3,E3,R3,hv3,c4,hl⟩:=he
            exact⟨x,hch,b3i hS hn hpick k6 k1 S3 E3 R3 c4 hl hv3 hv4 hm4 (b7c hf)⟩
          | outgrown=>exact he.elim
        · cases h
      · cases h
    · cases h
  · cases h
theorem Sim.same {A B:Hp}(hS:Sim ρ lab A w)(h:∀k,hget k A=hget k B):Sim ρ lab B w where
 kp:=hS.kp
 row:=fun k cs hk=>hS.row k cs (by rw[h];exact hk)
 grow:=fun k e cs hk=>hS.grow k e cs (by rw[h];exact hk)
 tip:=fun k e n hk=>hS.tip k e n (by rw[h];exact hk)
 mp:=fun k es hk=>hS.mp k es (by rw[h];exact hk)
 hdom:=fun k n x hx=>by
  obtain⟨e,m,h1,h2⟩:=hS.hdom k n x hx
  exact⟨e,m,by rw[<-h];exact h1,h2⟩
 adom:=fun k x hx=>by rw[<-h];exact hS.adom k x hx
 ldom:=hS.ldom
theorem b9h {r r':OpR}(h:b7v H r=some r'):∃v H4,r=.val v H4/\r'=.val v H /\ ∀k,hget k H4=hget k H:=by
 unfold b7v at h
 split at h
 ·rename_i v H4
  split at h
  ·rename_i hs
   cases h
   exact⟨v,H4,rfl,rfl,c1M hs⟩
  ·cases h
 ·cases h
theorem a3U {k g:Nat}{args:List V}{r:OpR}(h:a0W env orc k g args H=some r) :
  (M9 env orc k g args H=some r/\(env.quiet g=true∨env.look g=false))∨(env.quiet g=false/\env.look g=true /\ ∃v H4,M9 env orc k g args H=some (.val v H4)/\r=.val v H /\ ∀k,hget k H4=hget k H):=by
 unfold a0W at h
 split at h
 ·rename_i hq
  left
  refine⟨?_,.inl hq⟩
  unfold M9
  rw[hq];exact h
 ·rename_i hq
  split at h
  ·rename_i hl;exact .inl ⟨h,.inr hl⟩
  ·rename_i hl
   split at h
   ·rename_i r0 hr
    obtain⟨v,H4,rfl,h2,h3⟩:=b9h h
    exact .inr ⟨hq,hl,v,H4,hr,h2,h3⟩
   ·cases h
theorem callW_ok (hO:a6e P orc)(hS:Sim ρ lab H w){k g:Nat}{args:List V}{xs:List Value}{r:OpR}(hx:G9 ρ lab w args xs)(h:a0W env orc k g args H=some r) :
  Calls P g xs.toArray w (b2d ρ lab w r) /\ ∃fn c,P.funcs[g]? = some fn/\(fn.name == "runtime.NumGoroutine")=false/\fn.body=some c:=by
 rcases a3U h with⟨h1,_⟩ |⟨_,_,v,H4,h1,rfl,h3⟩
 ·exact a9Y hO hS hx h1
 ·obtain⟨k1,k2⟩:=a9Y hO hS hx h1
  refine⟨k1.mono fun e w' he=>?_,k2⟩
  cases e with
  | returned x =>
   obtain⟨ρ',lab',s1,s2,s3,s4⟩:=he
   exact⟨ρ',lab',s1.same h3,s2,s3,s4⟩
  | panicked ch=>exact he.elim
  | outgrown=>exact he.elim
theorem b5c {f:FuncId} {fn:Func} {c:Code} (hf:P.funcs[f]? = some fn) (hname:(fn.name == "runtime.NumGoroutine")=false) (hb:fn.body=some c) (args:Array Value) (w:World) :
  (callFunc f args).run P w=.ok (.enter f args) w:=by
 have h1:fn.name ≠ "runtime.NumGoroutine":=by simpa using hname
 simp[callFunc,hf,h1,hb]
def Post (nr n:Nat)(ρ:Rho)(lab:Lab)(w:World)(r:Res)(e:Exit)(a:Act)(w':World):Prop :=
 ∃ρ' lab',Sim ρ' lab' r.2.2 w'/\Ext lab w lab' w'/\a0V nr ρ ρ'/\a.defers=[] /\
  match r.1,e with
  | .normal,.normal=>FOk ρ' lab' w' r.2.1 a n
  | .ret,.ret=>FOk ρ' lab' w' r.2.1 a n
  | .exit i,.exit j=>i=j/\FOk ρ' lab' w' r.2.1 a n
  | .panic v,.panic ch=>∃x,ch=[{v:=x,recovered:=false}]/\Rel ρ' lab' w' v x
  | _,_=>False
theorem Post.trans {lab':Lab}{w' w'':World}{r:Res}{e:Exit}(E:Ext lab w lab' w')(R:a0V nr ρ ρ')(h:Post nr n ρ' lab' w' r e a w''):Post nr n ρ lab w r e a w'':=by
 obtain⟨ρ2,lab2,h1,h2,h3,h4⟩:=h
 exact⟨ρ2,lab2,h1,E.trans h2,R.trans h3 (Nat.le_refl _),h4⟩
def methB (P:Program)(t:Nat)(name:String)(g:Nat):Bool:=match P.info? t,P.underlying t with
 | some i,some d=>match i.methods.find? (·.name==name)with
  | none=>false
  | some m=>m.path.isEmpty&&(match m.func,d with
   | some (f,true),.pointer _=>Nat.beq f g
   | some (_,false),.pointer _=>false
   | some (f,false),_=>Nat.beq f g
   | _,_=>false)
 | _,_=>false
theorem b9k {P:Program}{t g:Nat}{name:String}(h:methB P t name g=true)(n:Nat)(v:Value)(w:World):(method (n+1) t v name).run P w=.ok (g,v) w:=by
 unfold methB at h
 split at h
 ·rename_i i d hi hd
  split at h
  ·cases h
  ·rename_i m hm
   simp only[Bool.and_eq_true]at h
   obtain⟨h1,h2⟩:=h
   have hp:m.path.toList=[]:=by
    have:m.path = #[]:=by simpa using h1
    simp[this]
   have ht:=a2E hi w
   have hu:=F8 hd w
   split at h2
   ·rename_i f _ hf
    have:=Nat.eq_of_beq_eq_true h2
    subst this
    unfold method
    simp only[Sem.run_bind,ht,Result.andThen_ok,hm,hp,follow,Sem.run_pure,hf,receiverAt,hu,Place.get]
   ·cases h2
   ·rename_i f hf hnp
    have:=Nat.eq_of_beq_eq_true h2
    subst this
    unfold method
    simp only[Sem.run_bind,ht,Result.andThen_ok,hm,hp,follow,Sem.run_pure,hf,receiverAt,hu]
    first
     | rfl
     |(rename_i d1 _ _ _;cases d1<;>first|exact absurd rfl (hnp _)|rfl)
     |(rename_i d1 _ _;cases d1<;>first|exact absurd rfl (hnp _)|rfl)
     |(rename_i d1 _;cases d1<;>first|exact absurd rfl (hnp _)|rfl)
     |(rename_i d1 _ _ _ _;cases d1<;>first|exact absurd rfl (hnp _)|rfl)
   ·cases h2
 ·cases h
def a5f (env:Env):Prop:=∀t name g,env.meth t name=some g->methB env.P t name g=true
theorem call_run (hM:a5f env)(hO:a6e env.P orc)(hS:Sim ρ lab H w)(hF:a1F ρ lab w fr a.tmps){o:Oper}{r:OpR}(hc:b2h o.op=true)(h:M4 env orc fr H o=some r) :
  ∃g args,(execOp a.eval o).run env.P w=.ok (.enter g args) w/\Calls env.P g args w (b2d ρ lab w r):=by
 obtain⟨dst,op,type,pos,after,guard⟩:=o
 unfold M4 at h
 simp only at h hc
 split at h<;>try(cases hc;done)
 ·rename_i f args at_
  split at h
  ·rename_i g first captured l hf hl
   have hb:=N9 hF hf
   generalize hcv:a.eval f=cv at hb
   cases hb with
   | func _ _ _ xs ys h1 h2 h3 h4 =>
   have hl':=b5C hF hl
   have hr:G9 ρ lab w (first++l++captured) (xs++args.toList.map a.eval++ys):=G9.append (G9.append ⟨h1,h3⟩ hl') ⟨h2,h4⟩
   obtain⟨k1,fn,c,k2,k3,k4⟩:=callW_ok hO hS hr h
   refine⟨g,_,?_,k1⟩
   simp only[execOp,resolve,hcv,Deferred.ofValue,Sem.run_bind,Sem.run_pure,Result.andThen_ok,invoke]
   rw[b5c k2 k3 k4]
   congr 2
   simp
  ·cases h
 ·rename_i rc m args at_
  split at h
  ·rename_i t v l hr hl
   split at h
   ·rename_i g hg
    have hb:=N9 hF hr
    generalize hcv:a.eval rc=cv at hb
    cases hb with
    | iface _ _ x hx =>
    have hl':=b5C hF hl
    have hrl:G9 ρ lab w (v::l) (x::args.toList.map a.eval):=A9.2 ⟨_,_,rfl,hx,hl'⟩
    obtain⟨k1,fn,c,k2,k3,k4⟩:=a9Y hO hS hrl h
    refine⟨g,_,?_,k1⟩
    have hm:=fun w=>b9k (hM t m g hg) (env.P.types.size+(Made.depth-1)) x w
    have hd:env.P.types.size+(Made.depth-1)+1=env.P.types.size+Made.depth:=by simp[Made.depth]
    rw[hd]at hm
    simp only[execOp,resolve,hcv,Sem.run_bind,Sem.run_pure,Result.andThen_ok,invoke]
    simp only[Array.getElem?_append,Array.size_singleton,Nat.zero_lt_one,if_true,List.getElem?_toArray,List.getElem?_cons_zero,callMethod,Sem.run_bind,run_program,Result.andThen_ok,hm]
    rw[show(#[x] ++(#[Value.iface t x]++Array.map a.eval args).extract 1 (#[Value.iface t x]++Array.map a.eval args).size) =(x::args.toList.map a.eval).toArray from ?_]
    ·exact b5c k2 k3 k4 _ _
    ·apply Array.ext';simp[Array.toList_extract];exact List.take_of_length_le (by simp)
   ·cases h
  ·cases h
 ·cases h
theorem Oper.wp_ok {o:Oper}{next:Act->World->Prop}{Q:Exit->Act->World->Prop}{x:Next}{w':World}(h:(execOp a.eval o).run P w=.ok x w')(hq:o.upon P a next Q (.ok x w')):o.wp P a w next Q:=by
 unfold Oper.wp;rw[h];exact hq
theorem a7t (hM:a5f env)(hT:TOk env.P env.T)(hO:a6e env.P orc){ops:Array Oper}{Q:Exit->Act->World->Prop}(hdst:∀(i:Nat) (o:Oper) (d:Nat),ops[i]? = some o->o.dst=some d->d<n) :
  ∀(l:List Nat) (ρ:Rho) (lab:Lab) (w:World) (H:Hp) (fr:Fr) (a:Act) (r:Res),H7 env orc ops (l.filterMap (ops[·]?)) fr H=some r->Sim ρ lab H w->FOk ρ lab w fr a n ->
   (∀e a' w',Post nr n ρ lab w r e a' w'->Q e a' w')->wpOps env.P ops Q l a w
 | [],ρ,lab,w,H,fr,a,r,h,hS,hF,hQ=>by
  simp only[List.filterMap_nil,H7]at h;cases h
  exact hQ _ _ _ ⟨ρ,lab,hS,.refl _ _,a0V.of_le (.refl _) _,hF.defers,hF⟩
 | i::l,ρ,lab,w,H,fr,a,r,h,hS,hF,hQ=>by
  unfold wpOps
  cases ho:ops[i]? with
  | none =>
   simp only[List.filterMap_cons,ho]at h
   exact a7t hM hT hO hdst l ρ lab w H fr a r h hS hF hQ
  | some o =>
   simp only[List.filterMap_cons,ho,H7]at h
   have hd:=fun d=>hdst i o d ho
   simp only
   cases hw:u6 ops o fr with
   | none=>rw[hw]at h;cases h
   | some b =>
    have hw2:=c2f hF hw
    rw[hw]at h
    rw[hw2]
    cases b with
    | false =>
     simp only[Bool.false_eq_true,if_false]at h ⊢
     exact a7t hM hT hO hdst l ρ lab w H _ _ r h hS (hF.put hd (.tuple [] [] rfl (by simp))) hQ
    | true =>
     simp only[if_true]at h ⊢
     refine .inl ?_
     unfold J6 at h
     cases hp:J4 o.op with
     | true =>
      rw[hp]at h
      simp only at h
      cases hv:O8 env.T fr o.op with
      | none=>rw[hv]at h;cases h
      | some v =>
       rw[hv]at h
       simp only at h
       obtain⟨x,w1,h1,h2,h3⟩:=pure_ok hT hS.ldom hF.rel hv
       refine Oper.wp_ok h1 ?_
       have E:=h2.ext lab
       refine a7t hM hT hO hdst l ρ lab w1 H _ _ r h (hS.grew h2) ((hF.ext E (.refl _)).put hd h3) (fun e a' w' hq=>hQ e a' w' (hq.trans E (a0V.of_le (.refl _) _)))
     | false =>
      rw[hp]at h
      simp only at h
      cases hv:M4 env orc fr H o with
      | none=>rw[hv]at h;cases h
      | some res =>
       rw[hv]at h
       cases hcv:b2h o.op with
       | false =>
        cases res with
        | val v H1 =>
         simp only at h
         obtain⟨nx,x,w1,ρ1,a1I,h1,h2,h3,h4,h5,h6⟩:=eff_run hT hS hF.rel hcv hv
         have key:wpOps env.P ops Q l (a.put o.dst x) w1 :=
          a7t hM hT hO hdst l ρ1 a1I w1 H1 _ _ r h h3 ((hF.ext h4 h5).put hd h6) (fun e a' w' hq=>hQ e a' w' (hq.trans h4 (a0V.of_le h5 _)))
         refine Oper.wp_ok h1 ?_
         rcases h2 with rfl |⟨rfl,rfl⟩
         ·exact key
         ·exact key
        | pan v H1 =>
         simp only at h
         cases h
         obtain⟨x,h1,rfl,h2⟩:=c1y hF.rel hcv hv
         unfold Oper.wp;rw[h1]
         exact hQ _ _ _ ⟨ρ,lab,hS,.refl _ _,a0V.of_le (.refl _) _,hF.defers,x,rfl,h2⟩
       | true =>
        obtain⟨g,args,h1,h2⟩:=call_run hM hO hS hF.rel hcv hv
        refine Oper.wp_ok h1 ?_
        rw[Oper.upon_enter]
        refine h2.mono (fun e w1 he=>?_)
        cases res with
        | val v H1 =>
         cases e with
         | returned x =>
          obtain⟨ρ1,a1I,h3,h4,h5,h6⟩:=he
          exact a7t hM hT hO hdst l ρ1 a1I w1 H1 _ _ r h h3 ((hF.ext h4 h5).put hd h6) (fun e a' w' hq=>hQ e a' w' (hq.trans h4 (a0V.of_le h5 _)))
         | panicked ch=>exact he.elim
         | outgrown=>exact he.elim
        | pan v H1 =>
         simp only at h
         cases h
         cases e with
         | returned x=>exact he.elim
         | panicked ch =>
          obtain⟨x,rfl,ρ1,a1I,h3,h4,h5,h6⟩:=he
          exact hQ _ _ _ ⟨ρ1,a1I,h3,h4,a0V.of_le h5 _,hF.defers,x,rfl,h6⟩
         | outgrown=>exact he.elim
end
end Go.Vm
namespace Go.Vm
section
variable {env:Env} {orc:Orc} {fr fr':Fr} {H:Hp} {T:List (Nat×Ty)} {ops:Array Oper}
def a5p (env:Env):Op->Bool
 | .load ..=>true
 | .call {callee:=.value (.func g),.. }=>env.quiet g||env.look g
 | _=>false
def isLd (o:Oper):Bool:=match a1J o with
 | some _=>true
 | none=>false
def b4v (env:Env)(ops:Array Oper)(b:Bool)(x y:Oper):Bool:=x.apart ops y&&((J4 x.op||J4 y.op ||(a5p env x.op&&a5p env y.op)) ||(b&&(isLd x||isLd y ||(a1v x&&a1v y))))
def b6d (ops:Array Oper):Nat->Nat->Nat->Bool
 | 0,_,_=>false
 | d+1,i,j=>match ops[i]? with
  | none=>false
  | some o=>o.after.toList.any fun e=>Region.binds .any e&&(Nat.beq e.on j||b6d ops d e.on j)
def b1a (ops:Array Oper):Bool:=(List.range ops.size).all fun i=>match ops[i]? with
 | none=>true
 | some o=>o.after.toList.all fun e=>!Region.binds .any e||Nat.blt e.on i
def b9t (env:Env)(ops:Array Oper)(b:Bool):Bool:=(List.range ops.size).all fun i=>(List.range i).all fun j=>match ops[j]?,ops[i]? with
 | some x,some y=>b4v env ops b x y||b6d ops 8 i j
 | _,_=>true
def safeB:List Oper->Bool
 | []=>true
 | o::r=>(match a1J o with
  | some t=>(o::r).all fun z=>match z.dst with|some d=>!Nat.beq d t|none=>true
  | none=>true)&&safeB r
def drawB (env:Env)(ops:Array Oper)(b:Bool):Bool:=b1a ops&&b9t env ops b&&(!b||safeB ops.toList)
def a5K (a b:Fr):Prop:=∀t,look t a=look t b
theorem a5K.refl (a:Fr):a5K a a:=fun _=>rfl
theorem a5K.trans {a b c:Fr}(h:a5K a b)(g:a5K b c):a5K a c:=fun t=>(h t).trans (g t)
theorem a1l (d:Option Nat)(v:V)(fr:Fr)(t:Nat):look t (M5 d v fr)=if d=some t then v else look t fr:=by
 cases d with
 | none=>simp[M5]
 | some d=>simp only[M5,a9f,Option.some.injEq]
theorem a2d {α β:Type}{f g:α->Option β}:∀{l:List α},(∀a∈l,f a=g a)->Y5 f l=Y5 g l
 | [],_=>rfl
 | a::t,h=>by simp only[Y5];rw[h a (List.mem_cons_self ..),a2d (fun b hb=>h b (List.mem_cons_of_mem _ hb))]
theorem b4x {l:List (Nat×Operand)}(h:∀x∈l.map (·.2),ev fr x=ev fr' x):evP fr l=evP fr' l:=by
 unfold evP
 exact a2d fun p hp=>by rw[h p.2 (List.mem_map_of_mem hp)]
theorem b1b {o:Option Operand}(h:∀x∈o.toList,ev fr x=ev fr' x):evX fr o=evX fr' o:=by
 cases o with
 | none=>rfl
 | some x=>simp only[evX];rw[h x (by simp)]
theorem b1T {op:Op}(h:∀x∈op.operands.toList,ev fr x=ev fr' x):O8 T fr op=O8 T fr' op:=by
  cases op with
  | build t ps=>simp only[O8];rw[b4x (fr:=fr) (fr':=fr') fun x hx=>h x (by simpa [Op.operands]using hx)]
  | buildSlice t n ps=>simp only[O8];rw[b4x (fr:=fr) (fr':=fr') fun x hx=>h x (by simpa [Op.operands]using hx)]
  | makeFunc fn a b =>
    simp only[O8,evL]
    rw[a2d (f:=ev fr) (g:=ev fr') fun x hx=>h x (by simp only[Op.operands,Array.toList_append,List.mem_append];exact .inl hx),
      a2d (f:=ev fr) (g:=ev fr') fun x hx=>h x (by simp only[Op.operands,Array.toList_append,List.mem_append];exact .inr hx)]
  | slice t x lo hi mx =>
    simp only[O8]
    rw[h x (by simp[Op.operands]),b1b (o:=lo) (fr:=fr) (fr':=fr') fun y hy=>h y (by simp[Op.operands];simp at hy;simp[hy]),
      b1b (o:=hi) (fr:=fr) (fr':=fr') fun y hy=>h y (by simp[Op.operands];simp at hy;simp[hy]),
      b1b (o:=mx) (fr:=fr) (fr':=fr') fun y hy=>h y (by simp[Op.operands];simp at hy;simp[hy])]
  | call c =>
    obtain⟨callee,args,argTypes⟩:=c
    cases callee with
    | builtin b =>
      have h':∀x∈args.toList,ev fr x=ev fr' x:=fun x hx=>h x (by simpa [Op.operands,Call.operands]using hx)
      generalize hl:args.toList=l at h'
      cases b<;>simp only[O8,hl]<;>first
        | rfl
        | (cases l with
           | nil=>rfl
           | cons a r =>
             cases r with
             | nil =>
               have ha:=h' a (by simp)
               generalize argTypes.toList=u
               cases u<;>first|rfl|simp only[ha]
             | cons b r =>
               cases r with
               | nil=>first|rfl|simp only[h' a (by simp),h' b (by simp)]
               | cons c r=>rfl)
    | _=>rfl
  | _ =>
    simp only[Op.operands]at h
    simp only[O8]<;>first
      | rfl
      |(simp at h;simp only[h])
theorem b1L {o:Oper}(h:∀x∈o.op.operands.toList,ev fr x=ev fr' x):M4 env orc fr H o=M4 env orc fr' H o:=by
  obtain⟨dst,op,type,pos,after,guard⟩:=o
  cases op with
  | call c =>
    obtain⟨callee,args,argTypes⟩:=c
    cases callee with
    | builtin b =>
      have h':∀x∈args.toList,ev fr x=ev fr' x:=fun x hx=>h x (by simpa [Op.operands,Call.operands]using hx)
      generalize hl:args.toList=l at h'
      cases b<;>simp only[M4,hl]<;>first
        | rfl
        | (cases l with
           | nil=>rfl
           | cons a r =>
             cases r with
             | nil=>rfl
             | cons b r =>
               cases r with
               | nil =>
                 have ha:=h' a (by simp)
                 have hb:=h' b (by simp)
                 generalize argTypes.toList=u
                 rcases u with _ |⟨t,_ |⟨u2,_|_⟩⟩<;>first|rfl |(simp only[ha,hb];done) |(simp only[ha,hb];rfl)
               | cons c r=>rfl)
    | value f =>
      simp only[M4,evL]
      rw[h f (by simp[Op.operands,Call.operands]),a2d (f:=ev fr) (g:=ev fr') fun x hx=>h x (by simp[Op.operands,Call.operands];exact .inr (by simpa using hx))]
    | invoke r m =>
      simp only[M4,evL]
      rw[h r (by simp[Op.operands,Call.operands]),a2d (f:=ev fr) (g:=ev fr') fun x hx=>h x (by simp[Op.operands,Call.operands];exact .inr (by simpa using hx))]
  | makeMap t r =>
    cases r with
    | none=>rfl
    | some c =>
      simp only[M4,newName]
      rw[h c (by simp[Op.operands])]
  | _ =>
    simp only[Op.operands]at h
    simp only[M4,newName]<;>first
      | rfl
      |(simp at h;simp only[h];done)
      |(simp at h;simp only[h];rfl)
def opV (env:Env)(orc:Orc)(ops:Array Oper)(o:Oper)(fr:Fr)(H:Hp):Option (V×Hp) :=
 match u6 ops o fr with
 | none=>none
 | some false=>some (.tuple [],H)
 | some true=>match J6 env orc fr H o with
  | some (.val v H)=>some (v,H)
  | _=>none
theorem R9 {o:Oper}{r:List Oper}{f1:Fr}{H1:Hp}:H7 env orc ops (o::r) fr H=some (.normal,f1,H1) ↔ ∃v H',opV env orc ops o fr H=some (v,H')/\H7 env orc ops r (M5 o.dst v fr) H'=some (.normal,f1,H1):=by
 simp only[H7,opV]
 cases u6 ops o fr with
 | none=>simp
 | some b =>
  have key:∀(v:V) (K:Hp),(H7 env orc ops r (M5 o.dst v fr) K=some (.normal,f1,H1)) ↔ ∃v' H',some (v,K)=some (v',H')/\H7 env orc ops r (M5 o.dst v' fr) H'=some (.normal,f1,H1) :=
   fun v K=>⟨fun h=>⟨v,K,rfl,h⟩,fun⟨v',H',h1,h2⟩=>by cases h1;exact h2⟩
  cases b with
  | false=>exact key _ _
  | true =>
   simp only
   cases J6 env orc fr H o with
   | none=>simp
   | some x =>
    cases x with
    | val v H'=>exact key _ _
    | pan v H'=>simp
theorem b1k {o:Oper}(h:∀t∈o.looksAt ops,look t fr=look t fr'):opV env orc ops o fr H=opV env orc ops o fr' H:=by
 have hop:∀x∈o.op.operands.toList,ev fr x=ev fr' x:=by
  intro x hx
  cases x with
  | tmp t=>simp only[ev];rw[h t (List.mem_append_left _ (List.mem_filterMap.2 ⟨.tmp t,hx,rfl⟩))]
  | _=>rfl
 have hw:u6 ops o fr=u6 ops o fr':=by
  unfold u6
  cases hg:o.guard with
  | none=>rfl
  | some p =>
   obtain⟨j,want⟩:=p
   simp only[a88]
   cases hd:(ops[j]?).bind (·.dst)with
   | none=>rfl
   | some t=>simp only;rw[h t (by simp[Oper.looksAt,hg,hd])]
 simp only[opV,hw,J6,b1T hop,b1L hop]
theorem b3q {o:Oper}(hp:J4 o.op=true){v:V}{H':Hp}(h:opV env orc ops o fr H=some (v,H')):H'=H /\ ∀H2,opV env orc ops o fr H2=some (v,H2):=by
 simp only[opV,J6,hp]at h ⊢
 cases hw:u6 ops o fr with
 | none=>rw[hw]at h;cases h
 | some b =>
  rw[hw]at h
  cases b with
  | false=>simp only[Option.some.injEq,Prod.mk.injEq]at h;obtain⟨rfl,rfl⟩:=h;exact⟨rfl,fun _=>rfl⟩
  | true =>
   simp only at h ⊢
   cases hv:O8 env.T fr o.op with
   | none=>rw[hv]at h;cases h
   | some u=>rw[hv]at h;simp only[Option.some.injEq,Prod.mk.injEq]at h;obtain⟨rfl,rfl⟩:=h;exact⟨rfl,fun _=>rfl⟩
theorem b9o {o:Oper}(hp:a5p env o.op=true){v:V}{H':Hp}(h:M4 env orc fr H o=some (.val v H')):H'=H:=by
 obtain⟨dst,op,type,pos,after,guard⟩:=o
 unfold a5p at hp
 simp only at hp
 split at hp
 ·simp only[M4]at h
  split at h
  ·split at h
   ·cases h;rfl
   ·cases h
  ·cases h
 ·rename_i g args argTypes
  simp only[M4,ev]at h
  split at h
  ·rename_i g' first captured l hf hl
   simp only[Option.some.injEq,V.func.injEq,Fn.func.injEq]at hf
   obtain⟨rfl,_,_⟩:=hf
   rcases a3U h with⟨h1,h2⟩ |⟨_,_,v',H4,h1,h2,_⟩
   ·have hq:env.quiet g=true:=by
     rcases h2 with h2|h2
     ·exact h2
     ·rw[h2,Bool.or_false]at hp;exact hp
    simp only[M9,hq,a0D]at h1
    split at h1
    ·cases h1
    ·split at h1
     ·split at h1
      ·cases h1;rfl
      ·cases h1
     ·cases h1
   ·cases h2;rfl
  ·cases h
 ·cases hp
theorem b3p {o:Oper}(hp:a5p env o.op=true){v:V}{H':Hp}(h:opV env orc ops o fr H=some (v,H')):H'=H:=by
 simp only[opV,J6]at h
 cases hw:u6 ops o fr with
 | none=>rw[hw]at h;cases h
 | some b =>
  rw[hw]at h
  cases b with
  | false=>simp only[Option.some.injEq,Prod.mk.injEq]at h;exact h.2.symm
  | true =>
   simp only at h
   cases hq:J4 o.op with
   | true =>
    rw[hq]at h
    simp only at h
    cases hv:O8 env.T fr o.op with
    | none=>rw[hv]at h;cases h
    | some u=>rw[hv]at h;simp only[Option.some.injEq,Prod.mk.injEq]at h;exact h.2.symm
   | false =>
    rw[hq]at h
    simp only at h
    cases hv:M4 env orc fr H o with
    | none=>rw[hv]at h;cases h
    | some u =>
     cases u with
     | val u H2=>rw[hv]at h;simp only[Option.some.injEq,Prod.mk.injEq]at h;obtain⟨rfl,rfl⟩:=h;exact b9o hp hv
     | pan u H2=>rw[hv]at h;cases h
theorem a9L:∀{l:List Oper} {fr fr':Fr} {H:Hp} {f1:Fr} {H1:Hp},a5K fr fr'->H7 env orc ops l fr H=some (.normal,f1,H1) -> ∃f2,H7 env orc ops l fr' H=some (.normal,f2,H1)/\a5K f1 f2
 | [],fr,fr',H,f1,H1,e,h=>by simp only[H7,Option.some.injEq,Prod.mk.injEq,true_and]at h ⊢;obtain⟨rfl,rfl⟩:=h;exact⟨fr',⟨rfl,rfl⟩,e⟩
 | o::r,fr,fr',H,f1,H1,e,h=>by
  obtain⟨v,H',h1,h2⟩:=R9.1 h
  rw[b1k (fr':=fr') fun t _=>e t]at h1
  obtain⟨f2,h3,h4⟩:=a9L (fr':=M5 o.dst v fr') (fun t=>by rw[a1l,a1l,e t]) h2
  exact⟨f2,R9.2 ⟨v,H',h1,h3⟩,h4⟩
def HFree (env:Env)(orc:Orc)(ops:Array Oper)(o:Oper)(fr:Fr):Prop:=∀(v:V) (H H':Hp),opV env orc ops o fr H=some (v,H')->H'=H /\ ∀H2,opV env orc ops o fr H2=some (v,H2)
theorem b4P {o:Oper}{t:Nat}(hl:a1J o=some t)(ha:a5q (look t fr)=true):HFree env orc ops o fr:=by
 have ho:∃ty,o.op=.load ty (.tmp t):=by
  unfold a1J at hl
  split at hl
  ·rename_i ty t' he;cases hl;exact⟨ty,he⟩
  ·cases hl
 obtain⟨ty,ho⟩:=ho
 obtain⟨cs,hcs⟩:∃cs,look t fr=.cptr cs:=by
  cases hv:look t fr<;>rw[hv]at ha<;>first|cases ha;done|exact⟨_,rfl⟩
 intro v H H' h
 simp only[opV]at h ⊢
 cases hw:u6 ops o fr with
 | none=>rw[hw]at h;cases h
 | some w =>
  rw[hw]at h
  cases w with
  | false=>simp only[Option.some.injEq,Prod.mk.injEq]at h;obtain⟨rfl,rfl⟩:=h;exact⟨rfl,fun _=>rfl⟩
  | true =>
   have hp:J4 o.op=false:=by rw[ho];rfl
   have he:∀K,J6 env orc fr K o=match a1Q env.T ty (.cptr cs) []with|some v=>some (.val v K)|none=>none:=by
    intro K
    simp only[J6,hp]
    unfold M4
    rw[ho]
    simp only[ev,hcs]
    have hK:a1Q env.T ty (.cptr cs) K=a1Q env.T ty (.cptr cs) []:=by unfold a1Q;cases I4 ty env.T<;>rfl
    rw[hK]
    cases a1Q env.T ty (.cptr cs) []<;>rfl
   simp only[he]at h ⊢
   cases hq:a1Q env.T ty (.cptr cs) []with
   | none=>rw[hq]at h;cases h
   | some u=>rw[hq]at h;simp only[Option.some.injEq,Prod.mk.injEq]at h;obtain⟨rfl,rfl⟩:=h;exact⟨rfl,fun _=>rfl⟩
theorem nbeq {a c:Nat}(h:a≠c):Nat.beq a c=false:=by
 cases hb:Nat.beq a c with
 | false=>rfl
 | true=>exact absurd (Nat.eq_of_beq_eq_true hb) h
theorem a6H {j k:Nat}{o p:Obj}(h:j≠k):∀H:Hp,hset j o (hset k p H)=hset k p (hset j o H)
 | []=>by
  have h1:Nat.beq j k=false:=nbeq h
  have h2:Nat.beq k j=false:=nbeq (Ne.symm h)
  simp only[hset,h1,h2]
  rcases Nat.lt_or_ge j k with h3|h3
  ·rw[Nat.ble_eq_true_of_le (by omega:j<=k),show Nat.ble k j=false by rw[<-Bool.not_eq_true,Nat.ble_eq];omega]
  ·rw[Nat.ble_eq_true_of_le (by omega:k<=j),show Nat.ble j k=false by rw[<-Bool.not_eq_true,Nat.ble_eq];omega]
 |(s,x)::r=>by
  have ih:=a6H (o:=o) (p:=p) h r
  have b1:∀{a c:Nat},a≠c->Nat.beq a c=false:=fun h=>nbeq h
  have b2:∀{a c:Nat},¬a<=c->Nat.ble a c=false:=fun h=>by rw[<-Bool.not_eq_true,Nat.ble_eq];exact h
  by_cases hj:s=j
  ·subst hj
   by_cases hk:Nat.ble k s=true
   ·simp[hset,b1 h,b1 (Ne.symm h),hk,b2 (show ¬s<=k by have:=Nat.le_of_ble_eq_true hk;omega)]
   ·simp only[Bool.not_eq_true]at hk
    simp[hset,b1 h,hk]
  ·by_cases hk:s=k
   ·subst hk
    by_cases hj2:Nat.ble j s=true
    ·simp[hset,b1 h,b1 (Ne.symm h),b1 hj,hj2,b2 (show ¬s<=j by have:=Nat.le_of_ble_eq_true hj2;omega)]
    ·simp only[Bool.not_eq_true]at hj2
     simp[hset,b1 hj,hj2]
   ·by_cases h1:Nat.ble j s=true
    ·by_cases h2:Nat.ble k s=true
     ·rcases Nat.lt_or_ge j k with h3|h3
      ·simp[hset,b1 hj,b1 hk,h1,h2,b1 h,b1 (Ne.symm h),b2 (show ¬k<=j by omega),Nat.ble_eq_true_of_le (show j<=k by omega)]
      ·simp[hset,b1 hj,b1 hk,h1,h2,b1 h,b1 (Ne.symm h),b2 (show ¬j<=k by omega),Nat.ble_eq_true_of_le (show k<=j by omega)]
     ·simp only[Bool.not_eq_true]at h2
      have h3:¬k<=j:=by
       intro h4
       have h5:=Nat.le_of_ble_eq_true h1
       rw[Nat.ble_eq_true_of_le (by omega)]at h2;cases h2
      simp[hset,b1 hj,b1 hk,h1,h2,b1 h,b2 h3]
    ·simp only[Bool.not_eq_true]at h1
     by_cases h2:Nat.ble k s=true
     ·have h3:¬j<=k:=by
       intro h4
       have h5:=Nat.le_of_ble_eq_true h2
       rw[Nat.ble_eq_true_of_le (by omega)]at h1;cases h1
      simp[hset,b1 hj,b1 hk,h1,h2,b1 (Ne.symm h),b2 h3]
     ·simp only[Bool.not_eq_true]at h2
      simp[hset,b1 hj,b1 hk,h1,h2,ih]
theorem b1j {o:Oper}{t:Nat}(ho:o.op=.alloc t){v:V}{H':Hp}(h:opV env orc ops o fr H=some (v,H')) :
  (H'=H /\ ∀K,opV env orc ops o fr K=some (v,K)) ∨ ∃x,hget (newName o) H=none/\H'=hset (newName o) x H /\ ∀K,hget (newName o) K=none->opV env orc ops o fr K=some (v,hset (newName o) x K):=by
 have hp:J4 o.op=false:=by rw[ho];rfl
 simp only[opV,J6,hp]at h ⊢
 cases hw:u6 ops o fr with
 | none=>rw[hw]at h;cases h
 | some w =>
  rw[hw]at h
  cases w with
  | false=>simp only[Option.some.injEq,Prod.mk.injEq]at h;obtain⟨rfl,rfl⟩:=h;exact .inl ⟨rfl,fun _=>rfl⟩
  | true =>
   have he:∀K,M4 env orc fr K o=match I4 t env.T,hget (newName o) K with|some y,none=>some (.val (.ptr (newName o) 0) (hset (newName o) (.row y.zero) K))|_,_=>none:=by
    intro K
    unfold M4
    rw[ho]
    simp only[]
    cases I4 t env.T<;>cases hget (newName o) K<;>rfl
   simp only[he]at h ⊢
   cases ht:I4 t env.T with
   | none=>rw[ht]at h;cases h
   | some y =>
    rw[ht]at h
    cases hg:hget (newName o) H with
    | some z=>rw[hg]at h;cases h
    | none =>
     rw[hg]at h
     simp only[Option.some.injEq,Prod.mk.injEq]at h
     obtain⟨rfl,rfl⟩:=h
     refine .inr ⟨_,rfl,rfl,fun K hK=>?_⟩
     rw[hK]
theorem a9G {o:Oper}(h:a1v o=true):∃t,o.op=.alloc t:=by
 unfold a1v at h
 split at h
 ·rename_i t he;exact⟨t,he⟩
 ·cases h
theorem swap_ok {b:Bool}{x y:Oper}{l:List Oper}{f1:Fr}{H1:Hp}(hc:b4v env ops b x y=true)(hx:b=true->isLd x=true->HFree env orc ops x fr)(hy:b=true->isLd y=true->HFree env orc ops y fr)
  (h:H7 env orc ops (x::y::l) fr H=some (.normal,f1,H1)) :
  ∃f2,H7 env orc ops (y::x::l) fr H=some (.normal,f2,H1)/\a5K f1 f2:=by
 simp only[b4v,Bool.and_eq_true]at hc
 obtain⟨ha,hc⟩:=hc
 obtain⟨a1,a2,a3⟩:=Oper.apart_spec ha
 obtain⟨vx,Hx,h1,h2⟩:=R9.1 h
 obtain⟨vy,Hy,h3,h4⟩:=R9.1 h2
 have e1:opV env orc ops y (M5 x.dst vx fr) Hx=opV env orc ops y fr Hx:=b1k fun t ht=>by
  rw[a1l,if_neg];exact fun hd=>a1 t hd ht
 have e2:∀K,opV env orc ops x (M5 y.dst vy fr) K=opV env orc ops x fr K:=fun K=>b1k fun t ht=>by
  rw[a1l,if_neg];exact fun hd=>a3 t hd ht
 rw[e1]at h3
 have e3:a5K (M5 y.dst vy (M5 x.dst vx fr)) (M5 x.dst vx (M5 y.dst vy fr)):=fun t=>by
  simp only[a1l]
  by_cases hx:x.dst=some t
  ·rw[if_pos hx,if_neg (a2 t hx),if_pos hx]
  ·rw[if_neg hx]
   by_cases hy:y.dst=some t
   ·rw[if_pos hy,if_neg hx]
   ·rw[if_neg hy,if_neg hx]
 have fin:∀K,opV env orc ops y fr H=some (vy,K)->opV env orc ops x fr K=some (vx,Hy) -> ∃f2,H7 env orc ops (y::x::l) fr H=some (.normal,f2,H1)/\a5K f1 f2:=by
  intro K k1 k2
  obtain⟨f2,g1,g2⟩:=a9L e3 h4
  exact⟨f2,R9.2 ⟨vy,K,k1,R9.2 ⟨vx,Hy,(e2 K).trans k2,g1⟩⟩,g2⟩
 simp only[Bool.or_eq_true,Bool.and_eq_true]at hc
 rcases hc with((hc|hc) |⟨hc,hc'⟩) |⟨hb,(hc|hc) |⟨hc,hc'⟩⟩
 ·obtain⟨rfl,g⟩:=b3q hc h1
  exact fin Hy h3 (g Hy)
 ·obtain⟨rfl,g⟩:=b3q hc h3
  exact fin H (g H) h1
 ·have:=b3p hc h1
  subst this
  have:=b3p hc' h3
  subst this
  exact fin _ h3 h1
 ·obtain⟨rfl,g⟩:=hx hb hc _ _ _ h1
  exact fin Hy h3 (g Hy)
 ·obtain⟨rfl,g⟩:=hy hb hc _ _ _ h3
  exact fin H (g H) h1
 ·obtain⟨t1,ho1⟩:=a9G hc
  obtain⟨t2,ho2⟩:=a9G hc'
  rcases b1j ho1 h1 with⟨rfl,g1⟩ |⟨o1,g1,rfl,g2⟩
  ·exact fin Hy h3 (g1 Hy)
  ·rcases b1j ho2 h3 with⟨rfl,g3⟩ |⟨o2,g3,rfl,g4⟩
   ·exact fin H (g3 H) h1
   ·rw[q9]at g3
    split at g3
    ·cases g3
    ·rename_i hne
     refine fin _ (g4 H g3) ?_
     rw[a6H hne]
     exact g2 _ (by rw[q9,if_neg (Ne.symm hne)];exact g1)
def a19 (f1:Fr):List Oper->Prop
 | []=>True
 | o::r=>(∀t,a1J o=some t->a5q (look t f1)=true /\ ∀z∈o::r,z.dst≠some t)/\a19 f1 r
theorem a19.sub {f1:Fr}{l l':List Oper}(h:List.Sublist l' l):a19 f1 l->a19 f1 l':=by
  induction h with
  | slnil=>exact fun h=>h
  | cons a _ ih=>exact fun h=>ih h.2
  | cons_cons a hs ih=>exact fun h=>⟨fun t ht=>⟨(h.1 t ht).1,fun z hz=>(h.1 t ht).2 z (by
      rcases List.mem_cons.1 hz with rfl|hz
      · exact List.mem_cons_self ..
      · exact List.mem_cons_of_mem _ (hs.subset hz))⟩,ih h.2⟩
theorem a19.congr {f1 f2:Fr}(e:a5K f1 f2):∀{l:List Oper},a19 f1 l->a19 f2 l
 | [],_=>trivial
 | _::_,h=>⟨fun t ht=>⟨by rw[<-e t];exact(h.1 t ht).1,(h.1 t ht).2⟩,a19.congr e h.2⟩
theorem a19.mem {f1:Fr}{y:Oper}{B:List Oper}:∀{A:List Oper},a19 f1 (A++y::B)->a19 f1 (y::B)
 | [],h=>h
 | _::_,h=>a19.mem h.2
theorem a7m:∀{l:List Oper} {fr f1:Fr} {H H1:Hp} {t:Nat},H7 env orc ops l fr H=some (.normal,f1,H1) ->(∀z∈l,z.dst≠some t)->look t f1=look t fr
 | [],fr,f1,H,H1,t,h,_=>by simp only[H7,Option.some.injEq,Prod.mk.injEq,true_and]at h;rw[h.1]
 | o::l,fr,f1,H,H1,t,h,hz=>by
  obtain⟨v,H',h1,h2⟩:=R9.1 h
  rw[a7m h2 (fun z hm=>hz z (List.mem_cons_of_mem _ hm)),a1l,if_neg (hz o (List.mem_cons_self ..))]
theorem b7p {o:Oper}{t:Nat}(h:a1J o=some t):t∈o.looksAt ops:=by
 unfold a1J at h
 split at h
 ·rename_i ty t' he
  cases h
  refine List.mem_append_left _ (List.mem_filterMap.2 ⟨.tmp t,?_,rfl⟩)
  rw[he];simp[Op.operands]
 ·cases h
theorem b1f {o:Oper}(h:isLd o=true):∃t,a1J o=some t:=by
 unfold isLd at h
 split at h
 ·rename_i t he;exact⟨t,he⟩
 ·cases h
theorem b4p {b:Bool}{y:Oper}:∀{A B:List Oper} {fr f1:Fr} {H H1:Hp},(∀x∈A,b4v env ops b x y=true) ->(b=true->a19 f1 (A++y::B))->H7 env orc ops (A++y::B) fr H=some (.normal,f1,H1) ->
  ∃f2,H7 env orc ops (y ::(A++B)) fr H=some (.normal,f2,H1)/\a5K f1 f2
 | [],B,fr,f1,H,H1,_,_,h=>⟨f1,h,.refl _⟩
 | x::A,B,fr,f1,H,H1,hc,hS,h=>by
  obtain⟨v,H',h1,h2⟩:=R9.1 h
  obtain⟨f2,h3,h4⟩:=b4p (fun z hz=>hc z (List.mem_cons_of_mem _ hz)) (fun hb=>(hS hb).2) h2
  have hev:H7 env orc ops (x::y ::(A++B)) fr H=some (.normal,f2,H1):=R9.2 ⟨v,H',h1,h3⟩
  have hmem:∀z∈x::y ::(A++B),z∈x ::(A++y::B):=by
   intro z hz
   simp only[List.mem_cons,List.mem_append]at hz ⊢
   rcases hz with rfl|rfl|hz|hz
   ·exact .inl rfl
   ·exact .inr (.inr (.inl rfl))
   ·exact .inr (.inl hz)
   ·exact .inr (.inr (.inr hz))
  obtain⟨f3,h5,h6⟩:=swap_ok (hc x (List.mem_cons_self ..)) (fun hb hl=>by
   obtain⟨t,ht⟩:=b1f hl
   obtain⟨k1,k2⟩:=(hS hb).1 t ht
   refine b4P ht ?_
   rw[<-a7m hev (fun z hz=>k2 z (hmem z hz)),<-h4 t]
   exact k1) (fun hb hl=>by
   obtain⟨t,ht⟩:=b1f hl
   have hy:a19 f1 (y::B):=a19.mem (A:=x::A) (hS hb)
   obtain⟨k1,k2⟩:=hy.1 t ht
   refine b4P ht ?_
   rw[<-a7m hev (fun z hz=>?_),<-h4 t]
   ·exact k1
   ·have hno:∀u∈x::A,u.dst≠some t:=by
     intro u hu hd
     have:=hc u hu
     simp only[b4v,Bool.and_eq_true]at this
     exact(Oper.apart_spec this.1).1 t hd (b7p ht)
    simp only[List.mem_cons,List.mem_append]at hz
    rcases hz with rfl|rfl|hz|hz
    ·exact hno _ (List.mem_cons_self ..)
    ·exact k2 _ (List.mem_cons_self ..)
    ·exact hno z (List.mem_cons_of_mem _ hz)
    ·exact k2 z (List.mem_cons_of_mem _ hz)) hev
  exact⟨f3,h5,h4.trans h6⟩
theorem c0S {f1:Fr}:∀{l:List Oper},safeB l=true ->((a1h l).all fun t=>a5q (look t f1))=true->a19 f1 l
 | [],_,_=>trivial
 | o::r,h1,h2=>by
  simp only[safeB,Bool.and_eq_true]at h1
  refine⟨fun t ht=>?_,c0S h1.2 ?_⟩
  ·rw[ht]at h1
   simp only[a1h,ht,List.all_cons,Bool.and_eq_true]at h2
   refine⟨h2.1,fun z hz hd=>?_⟩
   have:=List.all_eq_true.1 h1.1 z hz
   rw[hd]at this
   simp at this
  ·simp only[a1h]at h2
   split at h2
   ·simp only[List.all_cons,Bool.and_eq_true]at h2;exact h2.2
   ·exact h2
end
end Go.Vm
namespace Go.Vm
section
variable {env:Env} {orc:Orc} {ops:Array Oper} {L sl:List Nat} {fr fr':Fr} {H H':Hp}
def Sub (H H':Hp):Prop:=∀k o,hget k H=some o->hget k H'=some o
theorem Sub.refl (H:Hp):Sub H H:=fun _ _ h=>h
theorem Sub.trans {A B C:Hp}(h:Sub A B)(g:Sub B C):Sub A C:=fun k o e=>g k o (h k o e)
theorem b0T {k:Nat}{o:Obj}(h:hget k H=none):Sub H (hset k o H):=fun j x e=>by
 rw[q9,if_neg];· exact e
 ·rintro rfl;rw[h]at e;cases e
theorem b1m:∀(n:Nat) (todo acc:List Nat) (k:Nat),k∈acc->k∈reach H n todo acc
 | 0,_,_,_,h=>by simpa [reach]using h
 | n+1,[],_,_,h=>by simpa [reach]using h
 | n+1,a::todo,acc,k,h=>by
  simp only[reach]
  cases has a acc with
  | true=>exact b1m n todo acc k h
  | false=>exact b1m n _ _ k (List.mem_append_left _ h)
theorem a7b (hs:Sub H H'):∀(n:Nat) (todo acc:List Nat),(∀k∈reach H n todo acc,hget k H≠none)->reach H' n todo acc=reach H n todo acc
 | 0,_,_,_=>by simp[reach]
 | n+1,[],_,_=>by simp[reach]
 | n+1,a::todo,acc,h=>by
  simp only[reach]at h ⊢
  cases hb:has a acc with
  | true=>rw[hb]at h;exact a7b hs n todo acc h
  | false =>
   rw[hb]at h
   simp only at h ⊢
   have ha:=h a (b1m n _ _ a (List.mem_append_right _ (List.mem_singleton.2 rfl)))
   cases hg:hget a H with
   | none=>exact absurd hg ha
   | some o =>
    rw[hg]at h
    rw[hs a o hg]
    exact a7b hs n _ _ h
theorem a9k (hs:Sub H H'){m:Nat->Option Nat}:∀{ns:List Nat} {i:Nat} {r:Hp},a3k H m ns i=some r->a3k H' m ns i=some r /\ ∀k∈ns,hget k H≠none
 | [],i,r,h=>⟨h,fun k hk=>by cases hk⟩
 | a::ns,i,r,h=>by
  simp only[a3k]at h ⊢
  cases hg:hget a H with
  | none=>rw[hg]at h;cases h
  | some o =>
   rw[hg]at h
   rw[hs a o hg]
   simp only at h ⊢
   cases ho:a9B m o with
   | none=>rw[ho]at h;cases h
   | some o' =>
    rw[ho]at h
    cases hp:a3k H m ns (i+1)with
    | none=>rw[hp]at h;cases h
    | some l =>
     rw[hp]at h
     obtain⟨h1,h2⟩:=a9k hs hp
     rw[h1]
     refine⟨h,fun k hk=>?_⟩
     rcases List.mem_cons.1 hk with rfl|hk
     ·rw[hg];simp
     ·exact h2 k hk
theorem b84 (hs:Sub H H'){nr:Nat}{v:V}{r:V×Hp}(h:finish nr v H=some r):finish nr v H'=some r:=by
 unfold finish at h ⊢
 simp only[b4A,b2R,a7P]at h ⊢
 cases hp:a3k H (idx · (reach H 99 (List.range nr++Y3 dep v) [])) (reach H 99 (List.range nr++Y3 dep v) []) 0 with
 | none=>rw[hp]at h;revert h;cases a0e (idx · (reach H 99 (List.range nr++Y3 dep v) [])) dep v<;>(intro h;cases h)
 | some H2 =>
  obtain⟨h1,h2⟩:=a9k hs hp
  rw[a7b hs _ _ _ h2,h1,<-hp]
  exact h
theorem b0b {m:Nat->Option Nat}{k:Nat}:∀{M H H4:Hp},a0i m M H=some H4->hget k H4=none->hget k H=none
 | [],H,H4,h,hk=>by simp only[a0i,Option.some.injEq]at h;rw[h];exact hk
 |(i,x)::r,H,H4,h,hk=>by
  simp only[a0i]at h
  split at h
  ·rename_i j x' _ _
   have:=b0b h hk
   rw[q9]at this
   split at this
   ·cases this
   ·exact this
  ·cases h
theorem b3g {m:Nat->Option Nat}{k:Nat}{o:Obj}:∀{M H H4:Hp},a0i m M H=some H4->hget k H4=none->a0i m M (hset k o H)=some (hset k o H4)
 | [],H,H4,h,hk=>by simp only[a0i,Option.some.injEq]at h ⊢;rw[h]
 |(i,x)::r,H,H4,h,hk=>by
  simp only[a0i]at h ⊢
  split at h
  ·rename_i j x' _ _
   have:=b0b h hk
   have hne:j≠k:=by
    rintro rfl
    rw[q9,if_pos rfl]at this;cases this
   rw[a6H hne]
   exact b3g h hk
  ·cases h
theorem b3h {m:Nat->Option Nat}{k:Nat}:∀{M H H4:Hp},a0i m M H=some H4 ->(∀i o,(i,o)∈M->m i≠some k)->hget k H4=hget k H
 | [],H,H4,h,_=>by simp only[a0i,Option.some.injEq]at h;rw[h]
 |(i,x)::r,H,H4,h,hk=>by
  simp only[a0i]at h
  split at h
  ·rename_i j x' hj _
   rw[b3h h (fun i' o' hm=>hk i' o' (List.mem_cons_of_mem _ hm)),q9,if_neg]
   rintro rfl
   exact hk i x (List.mem_cons_self ..) hj
  ·cases h
theorem b7m:∀{M:Hp} {i:Nat},keysB i M=true -> ∀j o,(j,o)∈M->i<=j/\j<i+M.length
 | [],_,_,_,_,hm=>by cases hm
 |(a,x)::r,i,h,j,o,hm=>by
  simp only[keysB,Bool.and_eq_true]at h
  have ha:=Nat.eq_of_beq_eq_true h.1
  rcases List.mem_cons.1 hm with he|hm
  ·cases he;simp only[List.length_cons];omega
  ·have:=b7m h.2 j o hm;simp only[List.length_cons];omega
theorem b2W {k':Nat}{o:Obj}:∀{n k:Nat},a7n H k n=true ->(∀i,i<n->k+i≠k')->a7n (hset k' o H) k n=true
 | 0,_,_,_=>rfl
 | n+1,k,h,hn=>by
  simp only[a7n,Bool.and_eq_true]at h ⊢
  refine⟨?_,b2W h.2 (fun i hi=>hn i (by omega))⟩
  rw[q9,if_neg (hn n (Nat.lt_succ_self n))]
  exact h.1
def OpR.heap:OpR->Hp
 | .val _ H=>H
 | .pan _ H=>H
def OpR.add (k:Nat)(o:Obj):OpR->OpR
 | .val v H=>.val v (hset k o H)
 | .pan v H=>.pan v (hset k o H)
theorem a6u {g:Nat}{args:List V}{r:OpR}(h:a0D orc g args H=some r):r.heap=H /\ ∀K,∃v,r=.val v H/\a0D orc g args K=some (.val v K):=by
 unfold a0D at h ⊢
 split at h
 ·cases h
 ·split at h
  ·rename_i ho
   split at h
   ·rename_i hv
    cases h
    exact⟨rfl,fun K=>⟨_,rfl,rfl⟩⟩
   ·cases h
  ·cases h
def b4q (env:Env)(g:Nat)(M8:List V)(n:Nat)(H2:Hp):List V×Hp:=a8y env.full (a1E (env.argTags g) M8 n).1 ((L9 H2 (a1E (env.argTags g) M8 n).2).1++a9D n ((L9 H2 (a1E (env.argTags g) M8 n).2).2-n))
theorem a4J {k g:Nat} {args:List V} {r:OpR} (hq:env.quiet g = false) (h:M9 env orc k g args H = some r) :
    ∃ns M8 H2 H3 v v4,reach H 99 ((a0Y (env.argTags g) (env.a4x g) args).flatMap (Y3 dep)) []=ns/\Y5 (a0e (idx · ns) dep) (a0Y (env.argTags g) (env.a4x g) args)=some M8/\a3k H (idx · ns) ns 0=some H2 /\
      a0e (H6 ns k) dep v=some v4/\a0i (H6 ns k) H3 H=some r.heap/\a1S H H3 k ns.length=true /\
      ((orc (.call g (b4q env g M8 ns.length H2).1) (b4q env g M8 ns.length H2).2=some (.ret v H3)/\r=.val v4 r.heap) ∨
       (orc (.call g (b4q env g M8 ns.length H2).1) (b4q env g M8 ns.length H2).2=some (.pan v H3)/\r=.pan v4 r.heap)):=by
  unfold M9 at h
  rw[hq]at h
  simp only at h
  generalize hns:reach H 99 ((a0Y (env.argTags g) (env.a4x g) args).flatMap (Y3 dep)) []=ns at h
  split at h
  · rename_i M8 H2 h1 h2
    split at h
    · rename_i v H3 ho
      split at h
      · rename_i v4 H4 hv hm
        split at h
        · rename_i hf
          cases h
          exact⟨ns,M8,H2,H3,v,v4,rfl,h1,h2,hv,hm,hf,.inl ⟨ho,rfl⟩⟩
        · cases h
      · cases h
    · rename_i v H3 ho
      split at h
      · rename_i v4 H4 hv hm
        split at h
        · rename_i hf
          cases h
          exact⟨ns,M8,H2,H3,v,v4,rfl,h1,h2,hv,hm,hf,.inr ⟨ho,rfl⟩⟩
        · cases h
      · cases h
    · cases h
  · cases h
theorem b1x {k k' g:Nat}{args:List V}{r:OpR}(h:M9 env orc k g args H=some r)(hk:hget k' r.heap=none):hget k' H=none:=by
 cases hq:env.quiet g with
 | true =>
  unfold M9 at h
  rw[hq]at h
  rw[(a6u h).1]at hk;exact hk
 | false =>
  obtain⟨ns,a2,H2,H3,v,v4,_,_,_,_,hm,_⟩:=a4J hq h
  exact b0b hm hk
theorem b1w {k k' g:Nat}{o:Obj}{args:List V}{r:OpR}(h:M9 env orc k g args H=some r)(hk:hget k' r.heap=none)(hne:∀i,i<64->k+i≠k') :
  M9 env orc k g args (hset k' o H)=some (r.add k' o):=by
 cases hq:env.quiet g with
 | true =>
  unfold M9 at h ⊢
  rw[hq]at h ⊢
  obtain⟨v,rfl,h2⟩:=(a6u h).2 (hset k' o H)
  exact h2
 | false =>
  have hk0:=b1x h hk
  obtain⟨ns,a2,H2,H3,v,v4,h1,h2,h3,h4,hm,hf,ho⟩:=a4J hq h
  have hs:Sub H (hset k' o H):=b0T hk0
  obtain⟨p1,p2⟩:=a9k hs h3
  have hr:=a7b hs 99 ((a0Y (env.argTags g) (env.a4x g) args).flatMap (Y3 dep)) [] (by rw[h1];exact p2)
  have hf2:a1S (hset k' o H) H3 k ns.length=true:=by
   simp only[a1S,Bool.and_eq_true]at hf ⊢
   refine⟨hf.1,b2W hf.2 fun i hi=>hne i ?_⟩
   have:=Nat.le_of_ble_eq_true hf.1.1
   omega
  have hm2:=b3g (o:=o) hm hk
  unfold M9
  rw[hq]
  simp only[hr,h1,h2,p1]
  rcases ho with⟨ho,hre⟩ |⟨ho,hre⟩
  ·simp only[b4q]at ho
   simp only[ho,h4,hm2,hf2]
   rw[hre];rfl
  ·simp only[b4q]at ho
   simp only[ho,h4,hm2,hf2]
   rw[hre];rfl
theorem c1e {k k' g:Nat}{args:List V}{r:OpR}(h:a0W env orc k g args H=some r)(hk:hget k' r.heap=none):hget k' H=none:=by
 rcases a3U h with⟨h1,_⟩ |⟨_,_,v,H4,h1,rfl,h3⟩
 ·exact b1x h1 hk
 ·exact hk
theorem c1d {k k' g:Nat}{o:Obj}{args:List V}{r:OpR}(h:a0W env orc k g args H=some r)(hk:hget k' r.heap=none)(hne:∀i,i<64->k+i≠k') :
  a0W env orc k g args (hset k' o H)=some (r.add k' o):=by
 rcases a3U h with⟨h1,h2⟩ |⟨hq,hl,v,H4,h1,rfl,h3⟩
 ·have h4:=b1w (o:=o) h1 hk hne
  unfold a0W
  rcases h2 with h2|h2
  ·rw[h2]
   simp only
   unfold M9 at h4
   rw[h2]at h4;exact h4
  ·cases hq:env.quiet g with
   | true =>
    simp only
    unfold M9 at h4
    rw[hq]at h4;exact h4
   | false=>simp only[h2];exact h4
 ·have h4:=b1w (o:=o) h1 (k':=k') (by show hget k' H4=none;rw[h3];exact hk) hne
  unfold a0W
  simp only[hq,hl,h4]
  have h5:b3L (hset k' o H4) (hset k' o H)=true:=b75 fun j=>by rw[q9,q9,h3]
  simp only[OpR.add,b7v,h5]
theorem a5R {k:Nat}:∀{l:List Nat},has k l=true↔k∈l
 | []=>by simp[has]
 | a::r=>by
  simp only[has,List.mem_cons]
  cases hb:Nat.beq a k with
  | true=>have:=Nat.eq_of_beq_eq_true hb;simp[this]
  | false =>
   have hne:k≠a:=by rintro rfl;simp at hb
   simp only[a5R (l:=r)]
   exact⟨.inr,fun h=>h.resolve_left hne⟩
theorem b5w {k j g:Nat}{args:List V}{r:OpR}(h:M9 env orc k g args H=some r)(hj:hget j H≠none)
  (hn:env.quiet g=false->has j (reach H 99 ((a0Y (env.argTags g) (env.a4x g) args).flatMap (Y3 dep)) [])=false):hget j r.heap=hget j H:=by
 cases hq:env.quiet g with
 | true =>
  unfold M9 at h
  rw[hq]at h
  rw[(a6u h).1]
 | false =>
  obtain⟨ns,a2,H2,H3,v,v4,h1,h2,h3,h4,hm,hf,_⟩:=a4J hq h
  have hn:=hn hq
  rw[h1]at hn
  simp only[a1S,Bool.and_eq_true]at hf
  refine b3h hm fun i o hio hb=>?_
  have hlt:=b7m hf.1.2 i o hio
  unfold H6 at hb
  split at hb
  ·rename_i j' hj'
   cases hb
   have:j∈ns:=List.mem_of_getElem? hj'
   rw[<-a5R,hn]at this;cases this
  ·rename_i hno
   cases hb
   have hge:ns.length<=i:=by
    rcases Nat.lt_or_ge i ns.length with h5|h5
    ·rw[List.getElem?_eq_getElem h5]at hno;cases hno
    ·exact h5
   exact hj (b1d hf.2 (i-ns.length) (by omega))
theorem b8G {k j g:Nat}{args:List V}{r:OpR}(h:a0W env orc k g args H=some r)(hj:hget j H≠none)
  (hn:env.quiet g=false->has j (reach H 99 ((a0Y (env.argTags g) (env.a4x g) args).flatMap (Y3 dep)) [])=false):hget j r.heap=hget j H:=by
 rcases a3U h with⟨h1,_⟩ |⟨_,_,v,H4,h1,rfl,h3⟩
 ·exact b5w h1 hj hn
 ·rfl
theorem c1f {k g:Nat}{args:List V}{r:OpR}(h:a0W env orc k g args H=some r):∃r0,M9 env orc k g args H=some r0:=by
 rcases a3U h with⟨h1,_⟩ |⟨_,_,v,H4,h1,rfl,h3⟩
 ·exact⟨_,h1⟩
 ·exact⟨_,h1⟩
end
end Go.Vm
namespace Go.Vm
section
variable {env:Env} {orc:Orc} {ops:Array Oper} {L sl:List Nat} {fr fr':Fr} {H H':Hp}
def a0A (env:Env)(orc:Orc)(L sl:List Nat)(ops:Array Oper)(o:Oper)(fr:Fr)(H:Hp):Option (V×Hp) :=
 match u6 ops o fr with
 | none=>none
 | some false=>some (.tuple [],H)
 | some true=>match a1t env L sl fr H o with
  | false=>none
  | true=>match J6 env orc fr H o with
   | some (.val v H)=>some (v,H)
   | _=>none
def a9F (env:Env)(orc:Orc)(L sl:List Nat)(ops:Array Oper)(o:Oper)(fr:Fr)(H:Hp)(v:V)(H':Hp):Prop :=
 u6 ops o fr=some true/\a1t env L sl fr H o=true/\J6 env orc fr H o=some (.pan v H')
theorem O3 {o:Oper}{l:List Oper}{r:Res}:I5 env orc L sl ops (o::l) fr H=some r ↔
  (∃v H',a0A env orc L sl ops o fr H=some (v,H')/\I5 env orc L sl ops l (M5 o.dst v fr) H'=some r) ∨ ∃v H',a9F env orc L sl ops o fr H v H'/\r =(.panic v,fr,H'):=by
 simp only[I5,a0A,a9F]
 cases u6 ops o fr with
 | none=>simp
 | some b =>
  cases b with
  | false=>simp;exact⟨fun h=>⟨_,_,⟨rfl,rfl⟩,h⟩,fun⟨_,_,⟨h1,h2⟩,h⟩=>by subst h1 h2;exact h⟩
  | true =>
   cases a1t env L sl fr H o with
   | false=>simp
   | true =>
    simp only[true_and]
    cases J6 env orc fr H o with
    | none=>simp
    | some x =>
     cases x with
     | val v H1=>simp;exact⟨fun h=>⟨_,_,⟨rfl,rfl⟩,h⟩,fun⟨_,_,⟨h1,h2⟩,h⟩=>by subst h1 h2;exact h⟩
     | pan v H1=>simp;exact⟨fun h=>⟨_,_,⟨rfl,rfl⟩,h.symm⟩,fun⟨_,_,⟨h1,h2⟩,h3⟩=>by rw[h1,h2,h3]⟩
theorem a4k:∀{l:List Oper} {fr:Fr} {H:Hp} {r:Res},I5 env orc L sl ops l fr H=some r->H7 env orc ops l fr H=some r
 | [],fr,H,r,h=>h
 | o::l,fr,H,r,h=>by
  simp only[I5,H7]at h ⊢
  cases hw:u6 ops o fr with
  | none=>rw[hw]at h;cases h
  | some b =>
   rw[hw]at h
   cases b with
   | false=>exact a4k h
   | true =>
    simp only at h ⊢
    cases hp:a1t env L sl fr H o with
    | false=>rw[hp]at h;cases h
    | true =>
     rw[hp]at h
     simp only at h
     cases ho:J6 env orc fr H o with
     | none=>rw[ho]at h;cases h
     | some x =>
      rw[ho]at h
      cases x with
      | val v H1=>exact a4k h
      | pan v H1=>exact h
theorem a2h {o:Oper}{v:V}{H':Hp}:a0A env orc L sl ops o fr H=some (v,H')↔opV env orc ops o fr H=some (v,H')/\(u6 ops o fr=some true->a1t env L sl fr H o=true):=by
 simp only[a0A,opV]
 cases u6 ops o fr with
 | none=>simp
 | some b =>
  cases b with
  | false=>simp
  | true =>
   cases a1t env L sl fr H o with
   | false=>simp
   | true=>exact⟨fun h=>⟨h,fun _=>rfl⟩,fun h=>h.1⟩
theorem c0D {o:Oper}{x:Operand}(h:∀t∈o.looksAt ops,look t fr=look t fr')(hx:x∈o.op.operands.toList):ev fr x=ev fr' x:=by
 cases x with
 | tmp t=>simp only[ev];rw[h t (List.mem_append_left _ (List.mem_filterMap.2 ⟨.tmp t,hx,rfl⟩))]
 | _=>rfl
theorem b03 {o:Oper}(h:∀t∈o.looksAt ops,look t fr=look t fr'):u6 ops o fr=u6 ops o fr':=by
 unfold u6
 cases hg:o.guard with
 | none=>rfl
 | some p =>
  obtain⟨j,want⟩:=p
  simp only[a88]
  cases hd:(ops[j]?).bind (·.dst)with
  | none=>rfl
  | some t=>simp only;rw[h t (by simp[Oper.looksAt,hg,hd])]
theorem b0H {o:Oper}(h:∀t∈o.looksAt ops,look t fr=look t fr'):J6 env orc fr H o=J6 env orc fr' H o:=by
 have hop:∀x∈o.op.operands.toList,ev fr x=ev fr' x:=fun x hx=>c0D h hx
 simp only[J6,b1T hop,b1L hop]
theorem b8h {o:Oper}(h:∀t∈o.looksAt ops,look t fr=look t fr'):touch env fr H o=touch env fr' H o:=by
 have hop:∀x∈o.op.operands.toList,ev fr x=ev fr' x:=fun x hx=>c0D h hx
 unfold touch
 split
 ·rename_i args at_ heq
  rw[heq]at hop
  have h2:evL fr args.toList=evL fr' args.toList:=a2d fun x hx=>hop x (by simp only[Op.operands,Call.operands];simp only[Array.toList_append,List.mem_append];exact .inr hx)
  rw[h2]
 ·rename_i f args at_ heq
  rw[heq]at hop
  have h1:ev fr f=ev fr' f:=hop f (by simp[Op.operands,Call.operands])
  have h2:evL fr args.toList=evL fr' args.toList:=a2d fun x hx=>hop x (by simp only[Op.operands,Call.operands];simp only[Array.toList_append,List.mem_append];exact .inr hx)
  rw[h1,h2]
 ·rfl
theorem b1N {o:Oper}(h:∀t∈o.looksAt ops,look t fr=look t fr'):a1t env L sl fr H o=a1t env L sl fr' H o:=by
 unfold a1t
 rw[b8h h]
 cases hs:a7d o with
 | some t =>
  simp only
  have:t∈o.looksAt ops:=by
   unfold a7d at hs
   split at hs
   ·rename_i ty t' x he
    cases hs
    refine List.mem_append_left _ (List.mem_filterMap.2 ⟨.tmp t,?_,rfl⟩)
    rw[he];simp[Op.operands]
   ·cases hs
  rw[h t this]
 | none =>
  cases hl:a1J o with
  | none=>rfl
  | some t=>simp only;rw[h t (b7p hl)]
theorem a7s {o:Oper}(h:∀t∈o.looksAt ops,look t fr=look t fr'):a0A env orc L sl ops o fr H=a0A env orc L sl ops o fr' H:=by
 simp only[a0A,b03 h,b1N h,b0H h]
theorem a8m {o:Oper}{v:V}(h:∀t∈o.looksAt ops,look t fr=look t fr')(hp:a9F env orc L sl ops o fr H v H'):a9F env orc L sl ops o fr' H v H':=by
 unfold a9F at hp ⊢
 rw[<-b03 h,<-b1N h,<-b0H h]
 exact hp
theorem a5P:∀{l:List Oper} {fr fr':Fr} {H:Hp} {ex:Ex} {f1:Fr} {H1:Hp},a5K fr fr'->I5 env orc L sl ops l fr H=some (ex,f1,H1) -> ∃f2,I5 env orc L sl ops l fr' H=some (ex,f2,H1)/\a5K f1 f2
 | [],fr,fr',H,ex,f1,H1,e,h=>by
  simp only[I5,Option.some.injEq,Prod.mk.injEq]at h ⊢
  obtain⟨rfl,rfl,rfl⟩:=h
  exact⟨fr',⟨rfl,rfl,rfl⟩,e⟩
 | o::r,fr,fr',H,ex,f1,H1,e,h=>by
  rcases O3.1 h with⟨v,H',h1,h2⟩ |⟨v,H',h1,h2⟩
  ·rw[a7s (fr':=fr') fun t _=>e t]at h1
   obtain⟨f2,h3,h4⟩:=a5P (fr':=M5 o.dst v fr') (fun t=>by rw[a1l,a1l,e t]) h2
   exact⟨f2,O3.2 (.inl ⟨v,H',h1,h3⟩),h4⟩
  ·simp only[Prod.mk.injEq]at h2
   obtain⟨rfl,rfl,rfl⟩:=h2
   exact⟨fr',O3.2 (.inr ⟨v,H1,a8m (fun t _=>e t) h1,rfl⟩),e⟩
def b4K (sl:List Nat)(o:Oper):Bool:=match a1J o with
 | some t=>has t sl
 | none=>false
def b7i (sl:List Nat)(o:Oper):Bool:=match a7d o with
 | some t=>has (t+1000000) sl
 | none=>false
def a3K (env:Env)(ops:Array Oper)(sl:List Nat)(x y:Oper):Bool:=x.apart ops y&&((J4 x.op||J4 y.op ||(a5p env x.op&&a5p env y.op)) ||
 ((b4K sl x&&(a6k y||a1v y||a8C y||b7i sl y)) ||((a6k x&&a1v y||a1v x&&a1v y) && !Nat.beq (newName x) (newName y))))
theorem b1J (o:Oper):∃a,newName o=64*a:=by
 unfold newName
 split
 ·exact⟨_,rfl⟩
 ·exact⟨1,rfl⟩
theorem a8I {x y:Oper}(h:Nat.beq (newName x) (newName y)=false):∀i,i<64->newName x+i≠newName y:=by
 intro i hi he
 obtain⟨a,ha⟩:=b1J x
 obtain⟨b,hb⟩:=b1J y
 rw[ha,hb]at he
 have:i=0:=by omega
 subst this
 rw[ha,hb,show 64*a=64*b from by omega]at h
 simp at h
theorem b9B {o:Oper}(h:J4 o.op=true):a6k o=false/\a1v o=false/\a1J o=none/\a8C o=false/\a7d o=none:=by
 obtain⟨dst,op,type,pos,after,guard⟩:=o
 refine⟨?_,?_,?_,?_,?_⟩
 ·unfold a6k;simp only at h ⊢;split
  ·cases h
  ·rfl
 ·unfold a1v;simp only at h ⊢;split
  ·cases h
  ·rfl
 ·unfold a1J;simp only at h ⊢;split
  ·cases h
  ·rfl
 ·unfold a8C;simp only at h ⊢;split
  ·cases h
  ·cases h
  ·rfl
 ·unfold a7d;simp only at h ⊢;split
  ·cases h
  ·rfl
theorem b9A {o:Oper}(h:J4 o.op=true):a1t env L sl fr H o=true:=by
 obtain⟨h1,h2,h3,h4,h5⟩:=b9B h
 simp[a1t,h1,h2,h3,h4,h5]
theorem a6N {o:Oper}(hp:J4 o.op=true){v:V}(h:a0A env orc L sl ops o fr H=some (v,H')):H'=H /\ ∀K,a0A env orc L sl ops o fr K=some (v,K):=by
 obtain⟨h1,_⟩:=a2h.1 h
 obtain⟨rfl,g⟩:=b3q hp h1
 exact⟨rfl,fun K=>a2h.2 ⟨g K,fun _=>b9A hp⟩⟩
theorem b27 {α:Type}{x:Option α}:isSome x=true↔x≠none:=by cases x<;>simp[isSome]
theorem a8n {o:Oper}(h:a1v o=true):a6k o=false/\a1J o=none/\J4 o.op=false:=by
 obtain⟨t,ho⟩:=a9G h
 refine⟨?_,?_,?_⟩
 ·unfold a6k;rw[ho]
 ·unfold a1J;rw[ho]
 ·rw[ho];rfl
theorem touch_al {o:Oper}(h:a1v o=true):touch env fr H o=[]:=by
 obtain⟨t,ho⟩:=a9G h
 unfold touch;rw[ho]
theorem b3C {o:Oper}(h:a1v o=true):a1t env L sl fr H o=L.all fun r=>isSome (hget r H):=by
 unfold a1t
 rw[h,Bool.or_true,Bool.true_or]
 simp only[touch_al h,has,Bool.not_false,Bool.true_and]
theorem a5t {o:Oper}(ha:a1v o=true){v:V}(h:a0A env orc L sl ops o fr H=some (v,H')) :
  (u6 ops o fr=some false/\H'=H /\ ∀K,a0A env orc L sl ops o fr K=some (v,K)) ∨
  ∃x,(L.all fun r=>isSome (hget r H))=true/\hget (newName o) H=none/\H'=hset (newName o) x H /\ ∀K,hget (newName o) K=none ->(L.all fun r=>isSome (hget r K))=true->a0A env orc L sl ops o fr K=some (v,hset (newName o) x K):=by
 obtain⟨t,ho⟩:=a9G ha
 obtain⟨h1,h2⟩:=a2h.1 h
 cases hw:u6 ops o fr with
 | none=>simp only[a0A,hw]at h;cases h
 | some b =>
  cases b with
  | false =>
   refine .inl ⟨rfl,?_,fun K=>?_⟩
   ·simp only[a0A,hw,Option.some.injEq,Prod.mk.injEq]at h;exact h.2.symm
   ·simp only[a0A,hw,Option.some.injEq,Prod.mk.injEq]at h ⊢;exact⟨h.1,trivial⟩
  | true =>
   have h2:=h2 hw
   rw[b3C ha]at h2
   rcases b1j ho h1 with⟨rfl,g⟩ |⟨x,g1,rfl,g2⟩
   ·
    exfalso
    have hp:=(a8n ha).2.2
    simp only[opV,hw,J6,hp]at h1
    have he:M4 env orc fr H' o=match I4 t env.T,hget (newName o) H' with|some y,none=>some (.val (.ptr (newName o) 0) (hset (newName o) (.row y.zero) H'))|_,_=>none:=by
     unfold M4
     rw[ho]
     simp only[]
     cases I4 t env.T<;>cases hget (newName o) H'<;>rfl
    rw[he]at h1
    cases ht:I4 t env.T with
    | none=>rw[ht]at h1;cases h1
    | some y =>
     rw[ht]at h1
     cases hg:hget (newName o) H' with
     | some z=>rw[hg]at h1;cases h1
     | none =>
      rw[hg]at h1
      simp only[Option.some.injEq,Prod.mk.injEq]at h1
      have:=congrArg (hget (newName o)) h1.2
      rw[q9,if_pos rfl,hg]at this
      cases this
   ·exact .inr ⟨x,h2,g1,rfl,fun K hK hL=>a2h.2 ⟨g2 K hK,fun _=>by rw[b3C ha];exact hL⟩⟩
theorem cl_op {o:Oper}(h:a6k o=true):∃f args at_,o.op=.call ⟨.value f,args,at_⟩:=by
 unfold a6k at h
 split at h
 ·rename_i f args at_ he;exact⟨f,args,at_,he⟩
 ·cases h
theorem cl_kinds {o:Oper}(h:a6k o=true):a1v o=false/\a1J o=none/\J4 o.op=false:=by
 obtain⟨f,args,at_,ho⟩:=cl_op h
 refine⟨?_,?_,?_⟩
 ·unfold a1v;rw[ho]
 ·unfold a1J;rw[ho]
 ·rw[ho];rfl
theorem b99 {o:Oper} (h:a6k o = true) {r:OpR} (hs:J6 env orc fr H o = some r) :
    ∃g l,a0W env orc (newName o) g l H=some r/\(∀K,J6 env orc fr K o=a0W env orc (newName o) g l K) /\ ∀K,touch env fr K o=match env.quiet g with|true=>[]|false=>reach K 99 ((a0Y (env.argTags g) (env.a4x g) l).flatMap (Y3 dep)) []:=by
  obtain⟨f,args,at_,ho⟩:=cl_op h
  have hp:=(cl_kinds h).2.2
  have he:∀ K,J6 env orc fr K o = match ev fr f,evL fr args.toList with
      | some (.func (.func g) first captured),some l=>a0W env orc (newName o) g (first++l++captured) K
      | _,_=>none:=by
    intro K
    simp only[J6,hp]
    unfold M4
    rw[ho]
    rfl
  rw[he]at hs
  split at hs
  · rename_i g first captured l h1 h2
    refine⟨g,first++l++captured,hs,fun K=>?_,fun K=>?_⟩
    · rw[he,h1,h2]
    · unfold touch;rw[ho];simp only[h1,h2];rfl
  · cases hs
theorem a8T {o:Oper}(h:a6k o=true):a1t env L sl fr H o=L.all fun r=>!has r (touch env fr H o)&&isSome (hget r H):=by
 unfold a1t;rw[h,Bool.true_or,Bool.true_or]
theorem b9V {T:List (Nat×Ty)}{t xt k:Nat}{s x v:V}{K:Hp}(h:a2u T t xt s x H k=some (.pan v K)):False:=by
 unfold a2u at h
 repeat' (split at h)
 all_goals first
  |(cases h;done)
  |(obtain⟨_,h⟩:=I6 h;cases h;done)
theorem c0t {j g:Nat}(h:has j [g]=false):j≠g:=by
 rintro rfl
 simp[has]at h
theorem c2d {T:List (Nat×Ty)}{t xt k:Nat}{s x v:V}{K:Hp}(h:a2u T t xt s x H k=some (.val v K)){j:Nat}(h1:has j (Y3 dep s)=false)(h2:hget j H≠none):hget j K=hget j H:=by
 have hk:∀{o},hget k H=o->o=none->j≠k:=fun e e2 ej=>h2 (by rw[ej,e,e2])
 unfold a2u at h
 split at h
 ·cases h
 ·cases h
 split at h
 ·split at h
  ·split at h
   ·split at h
    ·split at h
     ·cases h
     ·rename_i he
      obtain⟨_,h⟩:=I6 h
      cases h
      rw[q9,if_neg (hk he rfl)]
    ·split at h
     ·cases h
     ·rename_i he
      obtain⟨_,h⟩:=I6 h
      cases h
      rw[q9,if_neg (hk he rfl)]
    ·cases h;rfl
    ·cases h;rfl
    ·cases h
   ·split at h
    ·split at h
     ·obtain⟨_,h⟩:=I6 h
      cases h
      rw[q9,if_neg (c0t h1)]
     ·cases h
    ·cases h
    ·split at h
     ·cases h
     ·rename_i he
      obtain⟨_,h⟩:=I6 h
      cases h
      rw[q9,if_neg (hk he rfl)]
    ·split at h
     ·rename_i he
      obtain⟨_,h⟩:=I6 h
      cases h
      rw[q9,if_neg (c0t h1),q9,if_neg (hk he rfl)]
     ·cases h
    ·cases h
  ·cases h
 ·cases h
theorem box_keep {o:Oper}(ho:a8C o=true){v:V}(h:a0A env orc L sl ops o fr H=some (v,H')){j:Nat}(hj:has j L=true):hget j H'=hget j H:=by
 have hcase:(∃t x,o.op=.box t x) ∨ ∃args at_,o.op=.call ⟨.builtin .append,args,at_⟩:=by
  unfold a8C at ho
  split at ho
  ·rename_i t x he;exact .inl ⟨t,x,he⟩
  ·rename_i args at_ he;exact .inr ⟨args,at_,he⟩
  ·cases ho
 obtain⟨h1,h2⟩:=a2h.1 h
 cases hw:u6 ops o fr with
 | none=>simp only[a0A,hw]at h;cases h
 | some b =>
  cases b with
  | false=>simp only[a0A,hw,Option.some.injEq,Prod.mk.injEq]at h;rw[h.2]
  | true =>
   have hp:=h2 hw
   unfold a1t at hp
   rw[ho,Bool.or_true]at hp
   have hp:=(List.all_eq_true.1 hp) j (a5R.1 hj)
   simp only[Bool.and_eq_true,Bool.not_eq_true']at hp
   rcases hcase with⟨t,x,hop⟩ |⟨args,at_,hop⟩
   case inr =>
    have hpu:J4 o.op=false:=by rw[hop];rfl
    simp only[opV,hw,J6,hpu]at h1
    unfold M4 at h1
    unfold touch at hp
    rw[hop]at h1 hp
    simp only at h1 hp
    split at h1
    ·rename_i r he
     split at he
     ·rename_i a b t u ea et
      rw[ea]at hp
      simp only[evL,Y5]at hp
      split at he
      ·rename_i s x e1 e2
       rw[e1,e2]at hp
       simp only[List.flatMap_cons,List.flatMap_nil,List.append_nil]at hp
       simp only[Option.some.injEq,Prod.mk.injEq]at h1
       obtain⟨rfl,rfl⟩:=h1
       refine c2d he ?_ (b27.1 hp.2)
       have:=hp.1
       rcases hh:has j (Y3 dep s)with _|_
       ·rfl
       ·have h3:has j (Y3 dep s++Y3 dep x)=true:=a5R.2 (List.mem_append_left _ (a5R.1 hh))
        rw[h3]at this;cases this
      ·cases he
     ·cases he
    ·cases h1
   have hpu:J4 o.op=false:=by rw[hop];rfl
   simp only[opV,hw,J6,hpu]at h1
   unfold M4 at h1
   rw[hop]at h1
   simp only at h1
   split at h1
   ·rename_i r he
    split at he
    ·rename_i y v' _ hg _
     split at he
     ·cases he
      simp only[Option.some.injEq,Prod.mk.injEq]at h1
      obtain⟨rfl,rfl⟩:=h1
      rw[q9,if_neg]
      rintro rfl
      have:=hp.2
      rw[hg]at this;cases this
     ·cases he
    ·cases he
   ·cases h1
theorem b8j {T:List (Nat×Ty)}{t r off j:Nat}{v:V}{K:Hp}(h:a3G T t (.ptr r off) v H=some K)(hj:j≠r):hget j K=hget j H:=by
 unfold a3G at h
 split at h
 ·rename_i heq
  cases heq
  split at h
  ·split at h
   ·simp only[gd]at h
    split at h
    ·cases h;rw[q9,if_neg hj]
    ·cases h
   ·split at h
    ·simp only[gd]at h
     split at h
     ·cases h;rw[q9,if_neg hj]
     ·cases h
    ·cases h
   ·cases h
  ·cases h
 ·cases h
theorem b9L {o:Oper}(ho:b7i sl o=true){v:V}(h:a0A env orc L sl ops o fr H=some (v,H')){j:Nat}(hj:has j L=true):hget j H'=hget j H:=by
 unfold b7i at ho
 cases hs:a7d o with
 | none=>rw[hs]at ho;cases ho
 | some t =>
  rw[hs]at ho
  simp only at ho
  obtain⟨ty,x,hop⟩:∃ty x,o.op=.store ty (.tmp t) x:=by
   unfold a7d at hs
   split at hs
   ·rename_i ty t' x he;cases hs;exact⟨ty,x,he⟩
   ·cases hs
  obtain⟨h1,h2⟩:=a2h.1 h
  cases hw:u6 ops o fr with
  | none=>simp only[a0A,hw]at h;cases h
  | some b =>
   cases b with
   | false=>simp only[a0A,hw,Option.some.injEq,Prod.mk.injEq]at h;rw[h.2]
   | true =>
    have hp:=h2 hw
    have k1:a6k o=false:=by unfold a6k;rw[hop]
    have k2:a1v o=false:=by unfold a1v;rw[hop]
    have k3:a8C o=false:=by unfold a8C;rw[hop]
    unfold a1t at hp
    rw[k1,k2,k3,hs]at hp
    simp only[Bool.or_false,ho]at hp
    have hpu:J4 o.op=false:=by rw[hop];rfl
    simp only[opV,hw,J6,hpu]at h1
    unfold M4 at h1
    rw[hop]at h1
    simp only[ev]at h1
    cases hl:look t fr with
    | ptr r off =>
     rw[hl]at hp h1
     have hne:j≠r:=by
      rintro rfl
      simp only[c0k,hj]at hp;cases hp
     split at h1
     ·rename_i q he
      split at he
      ·rename_i hh1 hh2
       simp only[Option.some.injEq]at hh1
       subst hh1
       split at he
       ·rename_i K hK
        cases he
        simp only[Option.some.injEq,Prod.mk.injEq]at h1
        obtain⟨rfl,rfl⟩:=h1
        exact b8j hK hne
       ·cases he
      ·cases he
     ·cases h1
    | _=>rw[hl]at hp;cases hp
theorem c1R {o:Oper}(ho:(a6k o||a1v o||a8C o||b7i sl o)=true){v:V}(h:a0A env orc L sl ops o fr H=some (v,H')){j:Nat}(hj:has j L=true):hget j H'=hget j H:=by
 cases hb:a8C o with
 | true=>exact box_keep hb h hj
 | false =>
 cases hst:b7i sl o with
 | true=>exact b9L hst h hj
 | false =>
 rw[hb,hst,Bool.or_false,Bool.or_false]at ho
 cases ha:a1v o with
 | true =>
  rcases a5t ha h with⟨_,rfl,_⟩ |⟨x,h1,h2,rfl,_⟩
  ·rfl
  ·have:=(List.all_eq_true.1 h1) j (a5R.1 hj)
   rw[q9,if_neg]
   rintro rfl
   rw[h2]at this;cases this
 | false =>
  rw[ha,Bool.or_false]at ho
  obtain⟨h1,h2⟩:=a2h.1 h
  cases hw:u6 ops o fr with
  | none=>simp only[a0A,hw]at h;cases h
  | some b =>
   cases b with
   | false=>simp only[a0A,hw,Option.some.injEq,Prod.mk.injEq]at h;rw[h.2]
   | true =>
    have hp:=h2 hw
    rw[a8T ho]at hp
    have hp:=(List.all_eq_true.1 hp) j (a5R.1 hj)
    simp only[Bool.and_eq_true,Bool.not_eq_true']at hp
    simp only[opV,hw]at h1
    cases hs:J6 env orc fr H o with
    | none=>rw[hs]at h1;cases h1
    | some r =>
     rw[hs]at h1
     cases r with
     | pan _ _=>cases h1
     | val v' K =>
      simp only[Option.some.injEq,Prod.mk.injEq]at h1
      obtain⟨rfl,rfl⟩:=h1
      obtain⟨g,l,g1,g2,g3⟩:=b99 ho hs
      refine b8G g1 (b27.1 hp.2) fun hq=>?_
      rw[g3,hq]at hp
      exact hp.1
theorem a6K {o:Oper}(hl:b4K sl o=true){v:V}(h:a0A env orc L sl ops o fr H=some (v,H')){K:Hp}(hK:∀j,has j L=true->hget j K=hget j H):H'=H/\a0A env orc L sl ops o fr K=some (v,K):=by
 unfold b4K at hl
 cases ht:a1J o with
 | none=>rw[ht]at hl;cases hl
 | some t =>
  rw[ht]at hl
  simp only at hl
  have ho:∃ty,o.op=.load ty (.tmp t):=by
   unfold a1J at ht
   split at ht
   ·rename_i ty t' he;cases ht;exact⟨ty,he⟩
   ·cases ht
  obtain⟨ty,ho⟩:=ho
  have k1:a6k o=false:=by unfold a6k;rw[ho]
  have k2:a1v o=false:=by unfold a1v;rw[ho]
  have k3:a8C o=false:=by unfold a8C;rw[ho]
  have k4:a7d o=none:=by unfold a7d;rw[ho]
  have hpr:∀G,a1t env L sl fr G o=b5Z L (look t fr):=fun G=>by
   unfold a1t
   rw[k1,k2,k3,k4,ht]
   simp only[Bool.or_false,hl]
  have hp:J4 o.op=false:=by rw[ho];rfl
  have he:∀G,J6 env orc fr G o=match a1Q env.T ty (look t fr) G with|some v=>some (.val v G)|none=>none:=fun G=>by
   simp only[J6,hp]
   unfold M4
   rw[ho]
   simp only[ev]
   rfl
  have hsame:b5Z L (look t fr)=true->a1Q env.T ty (look t fr) K=a1Q env.T ty (look t fr) H:=fun hk=>by
   unfold a1Q
   cases hv:look t fr with
   | ptr r off =>
    rw[hv]at hk
    cases I4 ty env.T with
    | none=>rfl
    | some y=>simp only;rw[hK r hk]
   | cptr cs=>cases I4 ty env.T<;>rfl
   | _=>rw[hv]at hk;cases hk
  simp only[a0A,hpr,he]at h ⊢
  cases hw:u6 ops o fr with
  | none=>rw[hw]at h;cases h
  | some b =>
   rw[hw]at h
   cases b with
   | false=>simp only[Option.some.injEq,Prod.mk.injEq]at h ⊢;exact⟨h.2.symm,h.1,trivial⟩
   | true =>
    simp only at h ⊢
    cases hk:b5Z L (look t fr)with
    | false=>rw[hk]at h;cases h
    | true =>
     rw[hk]at h
     simp only at h ⊢
     rw[hsame hk]
     cases hv:a1Q env.T ty (look t fr) H with
     | none=>rw[hv]at h;cases h
     | some u=>rw[hv]at h;simp only[Option.some.injEq,Prod.mk.injEq]at h ⊢;exact⟨h.2.symm,h.1,trivial⟩
theorem b1i {o:Oper}(hc:a5p env o.op=true){v:V}(h:a0A env orc L sl ops o fr H=some (v,H')):H'=H:=b3p hc (a2h.1 h).1
theorem a9H {k:Nat}{o:Obj}(h:(L.all fun r=>isSome (hget r H))=true):(L.all fun r=>isSome (hget r (hset k o H)))=true:=by
 rw[List.all_eq_true]at h ⊢
 intro r hr
 rw[q9]
 split
 ·rfl
 ·exact h r hr
theorem b8N {o:Oper}(hc:a6k o=true){r:OpR}{k:Nat}{x:Obj}(hp:a1t env L sl fr H o=true)(hs:J6 env orc fr H o=some r)(hk:hget k r.heap=none)(hne:∀i,i<64->newName o+i≠k) :
  a1t env L sl fr (hset k x H) o=true/\J6 env orc fr (hset k x H) o=some (r.add k x)/\hget k H=none:=by
 obtain⟨g,l,g1,g2,g3⟩:=b99 hc hs
 have hk0:=c1e g1 hk
 refine⟨?_,by rw[g2];exact c1d g1 hk hne,hk0⟩
 rw[a8T hc,List.all_eq_true]at hp ⊢
 have ht:touch env fr (hset k x H) o=touch env fr H o:=by
  rw[g3,g3]
  cases hq:env.quiet g with
  | true=>rfl
  | false =>
   obtain⟨r0,g0⟩:=c1f g1
   obtain⟨ns,a2,H2,H3,v,v4,h1,h2,h3,_⟩:=a4J hq g0
   refine a7b (b0T hk0) _ _ _ ?_
   rw[h1]
   exact(a9k (b0T hk0 (o:=x)) h3).2
 intro j hj
 have:=hp j hj
 simp only[Bool.and_eq_true]at this ⊢
 rw[ht]
 refine⟨this.1,?_⟩
 rw[q9]
 split
 ·rfl
 ·exact this.2
theorem swapP {x y:Oper}(hc:a3K env ops sl x y=true){vx vy:V}{Hx Hy:Hp}(h1:a0A env orc L sl ops x fr H=some (vx,Hx))(h3:a0A env orc L sl ops y (M5 x.dst vx fr) Hx=some (vy,Hy)) :
  ∃K,a0A env orc L sl ops y fr H=some (vy,K)/\a0A env orc L sl ops x (M5 y.dst vy fr) K=some (vx,Hy):=by
 simp only[a3K,Bool.and_eq_true]at hc
 obtain⟨ha,hc⟩:=hc
 obtain⟨a1,a2,a3⟩:=Oper.apart_spec ha
 have e1:a0A env orc L sl ops y (M5 x.dst vx fr) Hx=a0A env orc L sl ops y fr Hx:=a7s fun t ht=>by
  rw[a1l,if_neg];exact fun hd=>a1 t hd ht
 have e2:∀K,a0A env orc L sl ops x (M5 y.dst vy fr) K=a0A env orc L sl ops x fr K:=fun K=>a7s fun t ht=>by
  rw[a1l,if_neg];exact fun hd=>a3 t hd ht
 rw[e1]at h3
 simp only[e2]
 simp only[Bool.or_eq_true,Bool.and_eq_true,Bool.not_eq_true']at hc
 rcases hc with((hc|hc) |⟨hc,hc'⟩) |(⟨hc,hc'⟩ |⟨hc,hn⟩)
 ·obtain⟨rfl,g⟩:=a6N hc h1
  exact⟨Hy,h3,g Hy⟩
 ·obtain⟨rfl,g⟩:=a6N hc h3
  exact⟨H,g H,h1⟩
 ·have:=b1i hc h1
  subst this
  have:=b1i hc' h3
  subst this
  exact⟨_,h3,h1⟩
 ·have hx:=(a6K hc h1 (fun _ _=>rfl)).1
  subst hx
  exact⟨Hy,h3,(a6K hc h1 fun j hj=>c1R (by simp only[Bool.or_eq_true];exact hc') h3 hj).2⟩
 ·have hay:a1v y=true:=by rcases hc with⟨_,h⟩ |⟨_,h⟩<;>exact h
  rcases a5t hay h3 with⟨_,rfl,g⟩ |⟨z,g1,g2,rfl,g3⟩
  ·exact⟨H,g H,h1⟩
  ·rcases hc with⟨hcx,_⟩ |⟨hax,_⟩
   ·obtain⟨p1,p2⟩:=a2h.1 h1
    cases hw:u6 ops x fr with
    | none=>simp only[a0A,hw]at h1;cases h1
    | some b =>
     cases b with
     | false =>
      simp only[a0A,hw,Option.some.injEq,Prod.mk.injEq]at h1
      obtain⟨rfl,rfl⟩:=h1
      exact⟨_,g3 _ g2 g1,by simp only[a0A,hw]⟩
     | true =>
      have hp:=p2 hw
      simp only[opV,hw]at p1
      cases hs:J6 env orc fr H x with
      | none=>rw[hs]at p1;cases p1
      | some r =>
       rw[hs]at p1
       cases r with
       | pan _ _=>cases p1
       | val v' K =>
        simp only[Option.some.injEq,Prod.mk.injEq]at p1
        obtain⟨rfl,rfl⟩:=p1
        obtain⟨q1,q2,q3⟩:=b8N (x:=z) hcx hp hs g2 (a8I hn)
        refine⟨_,g3 H q3 ?_,?_⟩
        ·have:=hp
         rw[a8T hcx,List.all_eq_true]at this
         rw[List.all_eq_true]
         intro r hr
         have:=this r hr
         simp only[Bool.and_eq_true]at this
         exact this.2
        ·simp only[a0A,hw,q1,q2];rfl
   ·rcases a5t hax h1 with⟨_,rfl,g4⟩ |⟨u,k1,k2,rfl,k3⟩
    ·exact⟨_,g3 _ g2 g1,g4 _⟩
    ·have hne:newName y≠newName x:=by
      intro he;rw[he]at hn;simp at hn
     rw[q9,if_neg hne]at g2
     refine⟨_,g3 H g2 k1,?_⟩
     rw[a6H hne]
     exact k3 _ (by rw[q9,if_neg (Ne.symm hne)];exact k2) (a9H k1)
def isSto (o:Oper):Bool:=match a7d o with
 | some _=>true
 | none=>false
def b0a (o:Oper):Bool:=!J4 o.op && !(isLd o||a8C o||isSto o) && !(a1v o)
theorem b53 {o:Oper}{v:V}(h:a9F env orc L sl ops o fr H v H'):b0a o=true:=by
 obtain⟨_,_,h⟩:=h
 unfold b0a
 cases hp:J4 o.op with
 | true =>
  simp only[J6,hp]at h
  split at h<;>cases h
 | false =>
  simp only[J6,hp]at h
  cases hbx:a8C o with
  | true =>
   have hcase:(∃t x,o.op=.box t x) ∨ ∃args at_,o.op=.call ⟨.builtin .append,args,at_⟩:=by
    unfold a8C at hbx
    split at hbx
    ·rename_i t x he;exact .inl ⟨t,x,he⟩
    ·rename_i args at_ he;exact .inr ⟨args,at_,he⟩
    ·cases hbx
   unfold M4 at h
   rcases hcase with⟨t,x,hop⟩ |⟨args,at_,hop⟩
   ·rw[hop]at h
    simp only at h
    split at h
    ·split at h<;>cases h
    ·cases h
   ·rw[hop]at h
    simp only at h
    split at h
    ·split at h
     ·exact absurd h (fun h=>b9V h)
     ·cases h
    ·cases h
  | false =>
  cases hsto:isSto o with
  | true =>
   obtain⟨ty,t,x,hop⟩:∃ty t x,o.op=.store ty (.tmp t) x:=by
    unfold isSto at hsto
    cases hs:a7d o with
    | none=>rw[hs]at hsto;cases hsto
    | some t =>
     unfold a7d at hs
     split at hs
     ·rename_i ty t' x he;exact⟨ty,t',x,he⟩
     ·cases hs
   unfold M4 at h
   rw[hop]at h
   simp only at h
   split at h
   ·split at h<;>cases h
   ·cases h
  | false =>
  cases hl:isLd o with
  | true =>
   obtain⟨t,ht⟩:=b1f hl
   have ho:∃ty,o.op=.load ty (.tmp t):=by
    unfold a1J at ht
    split at ht
    ·rename_i ty t' he;cases ht;exact⟨ty,he⟩
    ·cases ht
   obtain⟨ty,ho⟩:=ho
   unfold M4 at h
   rw[ho]at h
   simp only at h
   split at h
   ·split at h<;>cases h
   ·cases h
  | false =>
   cases ha:a1v o with
   | true =>
    obtain⟨t,ho⟩:=a9G ha
    unfold M4 at h
    rw[ho]at h
    simp only at h
    split at h<;>cases h
   | false=>rfl
end
end Go.Vm
namespace Go.Vm
section
variable {env:Env} {orc:Orc} {ops:Array Oper} {L sl:List Nat} {fr fr':Fr} {H H':Hp}
theorem a2o {l:List Oper}{r:Res}:∀{A:List Oper} {fr:Fr} {H:Hp},I5 env orc L sl ops (A++l) fr H=some r ↔
  (∃fA HA,I5 env orc L sl ops A fr H=some (.normal,fA,HA)/\I5 env orc L sl ops l fA HA=some r) ∨ ∃v f H',I5 env orc L sl ops A fr H=some (.panic v,f,H')/\r =(.panic v,f,H')
 | [],fr,H=>by
  simp only[List.nil_append,I5,Option.some.injEq,Prod.mk.injEq,true_and,reduceCtorEq,false_and,exists_false,or_false]
  exact⟨fun h=>⟨fr,H,⟨rfl,rfl⟩,h⟩,fun⟨_,_,⟨h1,h2⟩,h⟩=>by subst h1 h2;exact h⟩
 | o::A,fr,H=>by
  rw[List.cons_append,O3]
  constructor
  ·rintro(⟨v,H',h1,h2⟩ |⟨v,H',h1,h2⟩)
   ·rcases a2o.1 h2 with⟨fA,HA,h3,h4⟩ |⟨v',f,K,h3,h4⟩
    ·exact .inl ⟨fA,HA,O3.2 (.inl ⟨v,H',h1,h3⟩),h4⟩
    ·exact .inr ⟨v',f,K,O3.2 (.inl ⟨v,H',h1,h3⟩),h4⟩
   ·exact .inr ⟨v,fr,H',O3.2 (.inr ⟨v,H',h1,rfl⟩),h2⟩
  ·rintro(⟨fA,HA,h1,h2⟩ |⟨v',f,K,h1,h2⟩)
   ·rcases O3.1 h1 with⟨v,H',h3,h4⟩ |⟨v,H',h3,h4⟩
    ·exact .inl ⟨v,H',h3,a2o.2 (.inl ⟨fA,HA,h4,h2⟩)⟩
    ·cases h4
   ·rcases O3.1 h1 with⟨v,H',h3,h4⟩ |⟨v,H',h3,h4⟩
    ·exact .inl ⟨v,H',h3,a2o.2 (.inr ⟨v',f,K,h4,h2⟩)⟩
    ·cases h4;exact .inr ⟨v',K,h3,h2⟩
theorem b72 {x y:Oper}(ha:x.apart ops y=true)(vx vy:V)(fr:Fr):a5K (M5 y.dst vy (M5 x.dst vx fr)) (M5 x.dst vx (M5 y.dst vy fr)):=by
 obtain⟨a1,a2,a3⟩:=Oper.apart_spec ha
 intro t
 simp only[a1l]
 by_cases hx:x.dst=some t
 ·rw[if_pos hx,if_neg (a2 t hx),if_pos hx]
 ·rw[if_neg hx]
  by_cases hy:y.dst=some t
  ·rw[if_pos hy,if_neg hx]
  ·rw[if_neg hy,if_neg hx]
theorem a8r {x y:Oper}(h:a3K env ops sl x y=true):x.apart ops y=true:=by
 simp only[a3K,Bool.and_eq_true]at h;exact h.1
theorem b97 {y:Oper}:∀{A:List Oper} {fr fA:Fr} {H HA:Hp} {vy:V} {Hy:Hp},(∀x∈A,a3K env ops sl x y=true)->I5 env orc L sl ops A fr H=some (.normal,fA,HA)->a0A env orc L sl ops y fA HA=some (vy,Hy) ->
  ∃K f',a0A env orc L sl ops y fr H=some (vy,K)/\I5 env orc L sl ops A (M5 y.dst vy fr) K=some (.normal,f',Hy)/\a5K (M5 y.dst vy fA) f'
 | [],fr,fA,H,HA,vy,Hy,_,h1,h2=>by
  simp only[I5,Option.some.injEq,Prod.mk.injEq,true_and]at h1
  obtain⟨rfl,rfl⟩:=h1
  exact⟨Hy,_,h2,rfl,.refl _⟩
 | x::A,fr,fA,H,HA,vy,Hy,hc,h1,h2=>by
  rcases O3.1 h1 with⟨vx,Hx,h3,h4⟩ |⟨_,_,_,h4⟩
  ·obtain⟨K,f',h5,h6,h7⟩:=b97 (fun z hz=>hc z (List.mem_cons_of_mem _ hz)) h4 h2
   obtain⟨K',h8,h9⟩:=swapP (hc x (List.mem_cons_self ..)) h3 h5
   obtain⟨f2,h10,h11⟩:=a5P (b72 (a8r (hc x (List.mem_cons_self ..))) vx vy fr) h6
   exact⟨K',f2,h8,O3.2 (.inl ⟨vx,K,h9,h10⟩),h7.trans h11⟩
  ·cases h4
theorem neutral {x y:Oper}(hc:a3K env ops sl x y=true)(hp:J4 y.op=false)(ha:a1v y=false){v:V}(h:a0A env orc L sl ops x fr H=some (v,H')):H'=H:=by
 simp only[a3K,Bool.and_eq_true,Bool.or_eq_true,hp,ha]at hc
 rcases hc.2 with((hc|hc) |⟨hc,_⟩) |(⟨hc,_⟩ |⟨hc,_⟩)
 ·exact(a6N hc h).1
 ·cases hc
 ·exact b1i hc h
 ·exact(a6K hc h (fun _ _=>rfl)).1
 ·rcases hc with⟨_,h⟩ |⟨_,h⟩<;>cases h
theorem b98 {y:Oper}(hyp:J4 y.op=false)(hya:a1v y=false){v:V}:∀{A:List Oper} {fr fA:Fr} {H HA:Hp},(∀x∈A,a3K env ops sl x y=true)->I5 env orc L sl ops A fr H=some (.normal,fA,HA)->a9F env orc L sl ops y fA HA v H' ->
  a9F env orc L sl ops y fr H v H'
 | [],fr,fA,H,HA,_,h1,h2=>by
  simp only[I5,Option.some.injEq,Prod.mk.injEq,true_and]at h1
  obtain⟨rfl,rfl⟩:=h1
  exact h2
 | x::A,fr,fA,H,HA,hc,h1,h2=>by
  rcases O3.1 h1 with⟨vx,Hx,h3,h4⟩ |⟨_,_,_,h4⟩
  ·have h5:=b98 hyp hya (fun z hz=>hc z (List.mem_cons_of_mem _ hz)) h4 h2
   have hx:=hc x (List.mem_cons_self ..)
   have:=neutral hx hyp hya h3
   subst this
   obtain⟨a1,_,_⟩:=Oper.apart_spec (a8r hx)
   exact a8m (fun t ht=>by rw[a1l,if_neg];exact fun hd=>a1 t hd ht) h5
  ·cases h4
theorem frameN {x y:Oper}(hc:a3K env ops sl x y=true)(hy:a1v y=true){v:V}{z:Obj}(h:a0A env orc L sl ops x fr H=some (v,H'))(hk:hget (newName y) H'=none) :
  a0A env orc L sl ops x fr (hset (newName y) z H)=some (v,hset (newName y) z H')/\hget (newName y) H=none:=by
 simp only[a3K,Bool.and_eq_true]at hc
 have hyp:=(a8n hy).2.2
 have hc:=hc.2
 simp only[Bool.or_eq_true,Bool.and_eq_true,hyp,Bool.not_eq_true']at hc
 have hyc:a5p env y.op=false:=by obtain⟨t,ho⟩:=a9G hy;rw[ho];rfl
 rcases hc with((hc|hc) |⟨_,hc⟩) |(⟨hc,_⟩ |⟨hc,hn⟩)
 ·obtain⟨rfl,g⟩:=a6N hc h;exact⟨g _,hk⟩
 ·cases hc
 ·rw[hyc]at hc;cases hc
 ·have hx:=(a6K hc h (fun _ _=>rfl)).1
  subst hx
  refine⟨?_,hk⟩
  unfold b4K at hc
  cases ht:a1J x with
  | none=>rw[ht]at hc;cases hc
  | some t =>
   have ho:∃ty,x.op=.load ty (.tmp t):=by
    unfold a1J at ht
    split at ht
    ·rename_i ty t' he;cases ht;exact⟨ty,he⟩
    ·cases ht
   obtain⟨ty,ho⟩:=ho
   have k1:a6k x=false:=by unfold a6k;rw[ho]
   have k2:a1v x=false:=by unfold a1v;rw[ho]
   have k3:a8C x=false:=by unfold a8C;rw[ho]
   have hpr:∀G,a1t env L sl fr G x=a1t env L sl fr H' x:=fun G=>by unfold a1t;rw[k1,k2,k3];rfl
   have hp:J4 x.op=false:=by rw[ho];rfl
   have he:∀G,J6 env orc fr G x=match a1Q env.T ty (look t fr) G with|some v=>some (.val v G)|none=>none:=fun G=>by
    simp only[J6,hp]
    unfold M4
    rw[ho]
    simp only[ev]
    rfl
   simp only[a0A,he]at h ⊢
   rw[hpr]
   cases hw:u6 ops x fr with
   | none=>rw[hw]at h;cases h
   | some b =>
    rw[hw]at h
    cases b with
    | false=>simp only[Option.some.injEq,Prod.mk.injEq]at h ⊢;exact⟨h.1,trivial⟩
    | true =>
     simp only at h ⊢
     cases hq:a1t env L sl fr H' x with
     | false=>rw[hq]at h;cases h
     | true =>
      rw[hq]at h
      simp only at h ⊢
      have hv:∀u,a1Q env.T ty (look t fr) H'=some u->a1Q env.T ty (look t fr) (hset (newName y) z H')=some u:=by
       intro u hu
       unfold a1Q at hu ⊢
       cases hl:look t fr with
       | ptr r off =>
        rw[hl]at hu
        cases hT:I4 ty env.T with
        | none=>rw[hT]at hu;cases hu
        | some yy =>
         rw[hT]at hu
         simp only at hu ⊢
         have:hget r (hset (newName y) z H')=hget r H':=by
          rw[q9,if_neg]
          rintro rfl
          rw[hk]at hu;cases hu
         rw[this];exact hu
       | cptr cs=>rw[hl]at hu;cases hT:I4 ty env.T<;>(rw[hT]at hu;exact hu)
       | _=>rw[hl]at hu;cases hT:I4 ty env.T<;>(rw[hT]at hu;cases hu)
      cases hu:a1Q env.T ty (look t fr) H' with
      | none=>rw[hu]at h;cases h
      | some u =>
       rw[hu]at h
       rw[hv u hu]
       simp only[Option.some.injEq,Prod.mk.injEq]at h ⊢
       exact⟨h.1,trivial⟩
 ·rcases hc with⟨hcx,_⟩ |⟨hax,_⟩
  ·obtain⟨p1,p2⟩:=a2h.1 h
   cases hw:u6 ops x fr with
   | none=>simp only[a0A,hw]at h;cases h
   | some b =>
    cases b with
    | false =>
     simp only[a0A,hw,Option.some.injEq,Prod.mk.injEq]at h
     obtain⟨rfl,rfl⟩:=h
     exact⟨by simp only[a0A,hw],hk⟩
    | true =>
     have hp:=p2 hw
     simp only[opV,hw]at p1
     cases hs:J6 env orc fr H x with
     | none=>rw[hs]at p1;cases p1
     | some r =>
      rw[hs]at p1
      cases r with
      | pan _ _=>cases p1
      | val v' K =>
       simp only[Option.some.injEq,Prod.mk.injEq]at p1
       obtain⟨rfl,rfl⟩:=p1
       obtain⟨q1,q2,q3⟩:=b8N (x:=z) hcx hp hs hk (a8I hn)
       exact⟨by simp only[a0A,hw,q1,q2];rfl,q3⟩
  ·rcases a5t hax h with⟨_,rfl,g4⟩ |⟨u,k1,k2,rfl,k3⟩
   ·exact⟨g4 _,hk⟩
   ·have hne:newName y≠newName x:=by intro he;rw[he]at hn;simp at hn
    rw[q9,if_neg hne]at hk
    refine⟨?_,hk⟩
    rw[a6H hne]
    exact k3 _ (by rw[q9,if_neg (Ne.symm hne)];exact k2) (a9H k1)
theorem framePan {x y:Oper}(hc:a3K env ops sl x y=true)(hy:a1v y=true){v:V}{z:Obj}(h:a9F env orc L sl ops x fr H v H')(hk:hget (newName y) H'=none) :
  a9F env orc L sl ops x fr (hset (newName y) z H) v (hset (newName y) z H')/\hget (newName y) H=none/\(L.all fun r=>isSome (hget r H))=true:=by
 have hm:=b53 h
 have hyp:=(a8n hy).2.2
 have hyc:a5p env y.op=false:=by obtain⟨t,ho⟩:=a9G hy;rw[ho];rfl
 simp only[b0a,Bool.and_eq_true,Bool.not_eq_true']at hm
 simp only[a3K,Bool.and_eq_true]at hc
 have hc:=hc.2
 simp only[Bool.or_eq_true,Bool.and_eq_true,hyp,hm.1.1,hm.2,hyc,Bool.not_eq_true']at hc
 have hcx:a6k x=true:=by
  rcases hc with((hc|hc) |⟨_,hc⟩) |(⟨hc,_⟩ |⟨hc,hn⟩)
  ·cases hc
  ·cases hc
  ·cases hc
  ·have:=hm.1.2
   simp only[Bool.or_eq_false_iff]at this
   have:=this.1.1
   unfold b4K at hc
   unfold isLd at this
   cases ht:a1J x with
   | none=>rw[ht]at hc;cases hc
   | some t=>rw[ht]at this;cases this
  ·rcases hc with⟨h,_⟩ |⟨h,_⟩
   ·exact h
   ·cases h
 have hn:Nat.beq (newName x) (newName y)=false:=by
  rcases hc with((hc|hc) |⟨_,hc⟩) |(⟨hc,_⟩ |⟨hc,hn⟩)
  ·cases hc
  ·cases hc
  ·cases hc
  ·have:=hm.1.2
   simp only[Bool.or_eq_false_iff]at this
   have:=this.1.1
   unfold b4K at hc
   unfold isLd at this
   cases ht:a1J x with
   | none=>rw[ht]at hc;cases hc
   | some t=>rw[ht]at this;cases this
  ·exact hn
 obtain⟨h1,h2,h3⟩:=h
 obtain⟨q1,q2,q3⟩:=b8N (x:=z) hcx h2 h3 hk (a8I hn)
 refine⟨⟨h1,q1,q2⟩,q3,?_⟩
 rw[a8T hcx,List.all_eq_true]at h2
 rw[List.all_eq_true]
 intro r hr
 have:=h2 r hr
 simp only[Bool.and_eq_true]at this
 exact this.2
theorem c1N {x y:Oper}(hc:a3K env ops sl x y=true)(hy:a1v y=true){v:V}(h:a0A env orc L sl ops x fr H=some (v,H'))(hs:(L.all fun r=>isSome (hget r H'))=true):(L.all fun r=>isSome (hget r H))=true:=by
 have hyp:=(a8n hy).2.2
 have hyc:a5p env y.op=false:=by obtain⟨t,ho⟩:=a9G hy;rw[ho];rfl
 simp only[a3K,Bool.and_eq_true]at hc
 have hc:=hc.2
 simp only[Bool.or_eq_true,Bool.and_eq_true,hyp,hyc,Bool.not_eq_true']at hc
 rcases hc with((hc|hc) |⟨_,hc⟩) |(⟨hc,_⟩ |⟨hc,hn⟩)
 ·rw[<-(a6N hc h).1];exact hs
 ·cases hc
 ·cases hc
 ·rw[<-(a6K hc h (fun _ _=>rfl)).1];exact hs
 ·rcases hc with⟨hcx,_⟩ |⟨hax,_⟩
  ·obtain⟨p1,p2⟩:=a2h.1 h
   cases hw:u6 ops x fr with
   | none=>simp only[a0A,hw]at h;cases h
   | some b =>
    cases b with
    | false =>
     simp only[a0A,hw,Option.some.injEq,Prod.mk.injEq]at h
     rw[h.2];exact hs
    | true =>
     have hp:=p2 hw
     rw[a8T hcx,List.all_eq_true]at hp
     rw[List.all_eq_true]
     intro r hr
     have:=hp r hr
     simp only[Bool.and_eq_true]at this
     exact this.2
  ·rcases a5t hax h with⟨_,rfl,g4⟩ |⟨u,k1,k2,rfl,k3⟩
   ·exact hs
   ·exact k1
theorem b4o {y:Oper}(hy:a1v y=true){v:V}{z:Obj}{u:V}:∀{A:List Oper} {fr f1:Fr} {H H1:Hp},(∀x∈A,a3K env ops sl x y=true)->I5 env orc L sl ops A fr H=some (.panic v,f1,H1)->hget (newName y) H1=none ->
  hget (newName y) H=none/\(L.all fun r=>isSome (hget r H))=true /\ ∃f2,I5 env orc L sl ops A (M5 y.dst u fr) (hset (newName y) z H)=some (.panic v,f2,hset (newName y) z H1)
 | [],fr,f1,H,H1,_,h,_=>by simp only[I5]at h;cases h
 | x::A,fr,f1,H,H1,hc,h,hk=>by
  have hx:=hc x (List.mem_cons_self ..)
  have ha:=a8r hx
  obtain⟨a1,a2,a3⟩:=Oper.apart_spec ha
  rcases O3.1 h with⟨vx,Hx,h3,h4⟩ |⟨v',K,h3,h4⟩
  ·obtain⟨g1,g2,f2,g3⟩:=b4o hy (fun w hw=>hc w (List.mem_cons_of_mem _ hw)) h4 hk
   obtain⟨k1,k2⟩:=frameN (z:=z) hx hy h3 g1
   have k1':a0A env orc L sl ops x (M5 y.dst u fr) (hset (newName y) z H)=some (vx,hset (newName y) z Hx):=by
    rw[<-k1]
    exact a7s fun t ht=>by rw[a1l,if_neg];exact fun hd=>a3 t hd ht
   obtain⟨f3,k3,_⟩:=a5P (b72 ha vx u fr) g3
   exact⟨k2,c1N hx hy h3 g2,f3,O3.2 (.inl ⟨_,_,k1',k3⟩)⟩
  ·simp only[Prod.mk.injEq,Ex.panic.injEq]at h4
   obtain⟨rfl,rfl,rfl⟩:=h4
   obtain⟨k1,k2,k3⟩:=framePan (z:=z) hx hy h3 hk
   refine⟨k2,k3,_,O3.2 (.inr ⟨v,_,a8m (fun t ht=>?_) k1,rfl⟩)⟩
   rw[a1l,if_neg];exact fun hd=>a3 t hd ht
end
end Go.Vm
namespace Go.Vm
section
variable {env:Env} {orc:Orc} {ops:Array Oper} {L sl:List Nat} {fr fr':Fr} {H H':Hp}
def bitB (m i:Nat):Bool:=Nat.beq (Nat.land (Nat.shiftRight m i) 1) 1
def ancB (M:List Nat)(j i:Nat):Bool:=bitB (M.getD j 0) i
def b2m (ops:Array Oper)(M:List Nat):Bool:=(List.range ops.size).all fun j=>match ops[j]? with
 | none=>true
 | some o=>(List.range ops.size).all fun i=>!ancB M j i||o.after.toList.any fun e=>Region.binds .any e&&Nat.blt e.on j&&(Nat.beq e.on i||ancB M e.on i)
def b7I (env:Env)(ops:Array Oper)(sl M:List Nat)(i j:Nat):Bool:=match ops[i]?,ops[j]? with
 | some x,some y=>ancB M j i ||(a3K env ops sl x y&&(!b0a x||a1v y))
 | _,_=>true
def b06 (ops:Array Oper)(i j:Nat):Bool:=match ops[i]?,ops[j]? with
 | some x,some y=>!(a1v x&&a1v y) || !Nat.beq (newName x) (newName y)
 | _,_=>true
def b52 (env:Env)(ops:Array Oper)(sl M:List Nat):List Nat->Bool
 | []=>true
 | i::r=>(r.all fun j=>b7I env ops sl M i j&&b06 ops i j && !Nat.beq i j)&&b52 env ops sl M r
def alB (env:Env)(o:Oper):Bool:=match o.op with
 | .alloc t=>(match o.guard with|none=>isSome (I4 t env.T)|some _=>false)
 | _=>true
def sepB (env:Env)(ops:Array Oper)(S sl M:List Nat):Bool :=
 b1a ops&&b2m ops M&&b52 env ops sl M S&&((List.range ops.size).all fun i=>has i S)&&(S.all fun i=>Nat.blt i ops.size)&&ops.toList.all (alB env)
def a2I (S:List Nat)(listed:Array Bool):List Nat:=S.filter fun i=>!listed.getD i true
def b2c (ops:Array Oper)(listed:Array Bool):Prop:=∀(i:Nat) (o:Oper) (e:Edge),listed.getD i true=true->ops[i]? = some o->e∈o.after.toList->Region.binds .any e=true->listed.getD e.on false=true
theorem b4I {listed:Array Bool}{i:Nat}(h:listed.getD i false=true):listed.getD i true=true:=by
 simp only[Array.getD_eq_getD_getElem?]at h ⊢
 cases hq:listed[i]? with
 | none=>rfl
 | some b=>rw[hq]at h;exact h
theorem b2A {M:List Nat}(hM:b2m ops M=true){listed:Array Bool}(hc:b2c ops listed):∀(n j i:Nat),j<n->j<ops.size->i<ops.size->ancB M j i=true ->
  (∀(o:Oper) (e:Edge),ops[j]? = some o->e∈o.after.toList->Region.binds .any e=true->listed.getD e.on false=true)->listed.getD i false=true
 | 0,j,i,h,_,_,_,_=>by omega
 | n+1,j,i,hn,hj,hi,ha,he=>by
  have h:=hM
  simp only[b2m,List.all_eq_true,List.mem_range]at h
  have h:=h j hj
  have ho:ops[j]? = some ops[j]:=by simp[hj]
  rw[ho]at h
  simp only[List.all_eq_true,List.mem_range]at h
  have h:=h i hi
  rw[ha]at h
  simp only[Bool.not_true,Bool.false_or,List.any_eq_true,Bool.and_eq_true,Bool.or_eq_true]at h
  obtain⟨e,h1,⟨h2,h3⟩,h4⟩:=h
  have hl:=he _ e ho h1 h2
  have hlt:e.on<j:=by simpa [Nat.blt_eq]using h3
  rcases h4 with h4|h4
  ·rw[Nat.eq_of_beq_eq_true h4]at hl;exact hl
  ·exact b2A hM hc n e.on i (by omega) (by omega) hi h4 (fun o' e' ho' he' hb'=>hc e.on o' e' (b4I hl) ho' he' hb')
theorem a5X {M:List Nat}:∀{S:List Nat},b52 env ops sl M S=true->S.Pairwise (fun i j=>b7I env ops sl M i j=true/\b06 ops i j=true/\i≠j)
 | [],_=>.nil
 | i::r,h=>by
  simp only[b52,Bool.and_eq_true,List.all_eq_true,Bool.not_eq_true']at h
  refine .cons (fun j hj=>?_) (a5X h.2)
  have:=h.1 j hj
  refine⟨this.1.1,this.1.2,?_⟩
  rintro rfl
  have:=this.2
  simp at this
theorem least:∀(l:List Nat),l ≠ [] -> ∃i∈l,∀j∈l,i<=j
 | [],h=>absurd rfl h
 | [a],_=>⟨a,List.mem_singleton.2 rfl,fun j hj=>by rw[List.mem_singleton.1 hj];exact Nat.le_refl _⟩
 | a::b::r,_=>by
  obtain⟨i,hi,h⟩:=least (b::r) (by simp)
  rcases Nat.lt_or_ge i a with h1|h1
  ·refine⟨i,List.mem_cons_of_mem _ hi,fun j hj=>?_⟩
   rcases List.mem_cons.1 hj with rfl|hj
   ·omega
   ·exact h j hj
  ·refine⟨a,List.mem_cons_self ..,fun j hj=>?_⟩
   rcases List.mem_cons.1 hj with rfl|hj
   ·exact Nat.le_refl _
   ·exact Nat.le_trans h1 (h j hj)
theorem c0M {v:V}:∀{A:List Oper} {fr f1:Fr} {H H1:Hp},I5 env orc L sl ops A fr H=some (.panic v,f1,H1) -> ∃x∈A,b0a x=true
 | [],_,_,_,_,h=>by simp only[I5]at h;cases h
 | x::A,_,_,_,_,h=>by
  rcases O3.1 h with⟨_,_,_,h4⟩ |⟨_,_,h3,_⟩
  ·obtain⟨z,hz,hm⟩:=c0M h4
   exact⟨z,List.mem_cons_of_mem _ hz,hm⟩
  ·exact⟨x,List.mem_cons_self ..,b53 h3⟩
theorem opVP_al {o:Oper}(ha:a1v o=true)(hb:alB env o=true)(hk:hget (newName o) H=none)(hL:(L.all fun r=>isSome (hget r H))=true) :
  ∃u z,a0A env orc L sl ops o fr H=some (u,hset (newName o) z H):=by
 obtain⟨t,ho⟩:=a9G ha
 unfold alB at hb
 rw[ho]at hb
 simp only at hb
 cases hg:o.guard with
 | some x=>rw[hg]at hb;cases hb
 | none =>
  rw[hg]at hb
  simp only at hb
  cases hT:I4 t env.T with
  | none=>rw[hT]at hb;cases hb
  | some y =>
   refine⟨.ptr (newName o) 0,.row y.zero,?_⟩
   have hp:=(a8n ha).2.2
   have he:M4 env orc fr H o=some (.val (.ptr (newName o) 0) (hset (newName o) (.row y.zero) H)):=by
    unfold M4
    rw[ho]
    simp only[hT,hk]
   simp only[a0A,u6,hg,b3C ha,hL,J6,hp,he]
theorem b2k {S M:List Nat}(hE:b1a ops=true)(hM:b2m ops M=true)(hall:∀j,j<ops.size->j∈S)(hlt:∀j,j∈S->j<ops.size)(hP:S.Pairwise (fun i j=>b7I env ops sl M i j=true/\b06 ops i j=true/\i≠j))(hal:∀o∈ops.toList,alB env o=true) :
  ∀(fuel t:Nat) (listed:Array Bool) (fr:Fr) (H:Hp) (ex:Ex) (f1:Fr) (H1:Hp),listed.size=ops.size->b2c ops listed ->(a2I S listed).length<=fuel ->
  I5 env orc L sl ops ((a2I S listed).filterMap (ops[·]?)) fr H=some (ex,f1,H1) ->
  (∀v,ex=.panic v -> ∀i∈a2I S listed,∀o,ops[i]? = some o->a1v o=true->hget (newName o) H1=none) ->
  ∃f2 H2,I5 env orc L sl ops ((Region.linearise.go .any ops fuel t listed []).filterMap (ops[·]?)) fr H=some (ex,f2,H2)/\(ex=.normal->H2=H1/\a5K f1 f2)/\Sub H1 H2
 | 0,t,listed,fr,H,ex,f1,H1,hsz,hc,hl,h,hab=>by
  have:a2I S listed=[]:=by simpa using hl
  rw[this]at h
  simp only[Region.linearise.go,List.reverse_nil]
  exact⟨f1,H1,h,fun _=>⟨rfl,.refl _⟩,.refl _⟩
 | fuel+1,t,listed,fr,H,ex,f1,H1,hsz,hc,hl,h,hab=>by
  have hpw:(a2I S listed).Pairwise (fun i j=>b7I env ops sl M i j=true/\b06 ops i j=true/\i≠j):=List.Pairwise.sublist List.filter_sublist hP
  have hnd:(a2I S listed).Nodup:=hpw.imp fun h=>h.2.2
  have hmem:∀j,j∈a2I S listed↔j<ops.size/\listed.getD j true=false:=fun j=>by
   simp only[a2I,List.mem_filter,Bool.not_eq_true']
   exact⟨fun h=>⟨hlt j h.1,h.2⟩,fun h=>⟨hall j h.1,h.2⟩⟩
  have hready:∀j,j∈Region.ready .any ops listed↔j∈a2I S listed /\ ∀o,ops[j]? = some o -> ∀e∈o.after.toList,Region.binds .any e=true->listed.getD e.on false=true:=by
   intro j
   rw[hmem]
   simp only[Region.ready,List.mem_filter,List.mem_range,Bool.and_eq_true,Bool.not_eq_true',and_assoc]
   refine and_congr_right fun hj=>and_congr_right fun _=>?_
   have ho:ops[j]? = some ops[j]:=by simp[hj]
   rw[ho]
   simp only[Option.map_some,Option.getD_some,Array.all_eq_true_iff_forall_mem,Bool.or_eq_true,Bool.not_eq_true',Option.some.injEq]
   constructor
   ·rintro h1 o rfl e he hb
    rcases h1 e (by simpa using he)with h2|h2
    ·rw[hb]at h2;cases h2
    ·exact h2
   ·intro h1 e he
    cases hb:Region.binds .any e with
    | false=>exact .inl rfl
    | true=>exact .inr (h1 _ rfl e (by simpa using he) hb)
  simp only[Region.linearise.go]
  change ∃f2 H2,I5 env orc L sl ops ((match (Region.ready .any ops listed)[t%(Region.ready .any ops listed).length]? with
   | some i=>Region.linearise.go .any ops fuel (t/(Region.ready .any ops listed).length) (listed.setIfInBounds i true) [i]
   | none=>[].reverse).filterMap (ops[·]?)) fr H=some (ex,f2,H2)/\(ex=.normal->H2=H1/\a5K f1 f2)/\Sub H1 H2
  cases hi:(Region.ready .any ops listed)[t%(Region.ready .any ops listed).length]? with
  | none =>
   have hnil:Region.ready .any ops listed=[]:=by
    cases hr:Region.ready .any ops listed with
    | nil=>rfl
    | cons x xs =>
     rw[hr]at hi
     have hlt:t%(x::xs).length<(x::xs).length:=Nat.mod_lt _ (by simp)
     simp at hi
     simp at hlt
     omega
   have hr0:a2I S listed=[]:=by
    by_cases hr:a2I S listed=[]
    ·exact hr
    ·exfalso
     obtain⟨i0,hin,hmin⟩:=least _ hr
     have hrd:i0∈Region.ready .any ops listed:=by
      refine(hready i0).2 ⟨hin,fun o ho e he hb=>?_⟩
      have hi0:=((hmem i0).1 hin).1
      have hlt:e.on<i0:=by
       simp only[b1a,List.all_eq_true,List.mem_range]at hE
       have:=hE i0 hi0
       rw[ho]at this
       simp only[List.all_eq_true,Bool.or_eq_true,Bool.not_eq_true']at this
       rcases this e he with h2|h2
       ·rw[hb]at h2;cases h2
       ·simpa [Nat.blt_eq]using h2
      have hon:e.on<ops.size:=by omega
      have hno:e.on ∉ a2I S listed:=fun h3=>by have:=hmin _ h3;omega
      rw[hmem]at hno
      have h4:listed.getD e.on true=true:=by
       cases hq:listed.getD e.on true with
       | true=>rfl
       | false=>exact absurd ⟨hon,hq⟩ hno
      simp only[Array.getD_eq_getD_getElem?]at h4 ⊢
      rw[Array.getElem?_eq_getElem (by omega)]at h4 ⊢
      exact h4
     rw[hnil]at hrd
     cases hrd
   rw[hr0]at h
   exact⟨f1,H1,h,fun _=>⟨rfl,.refl _⟩,.refl _⟩
  | some i =>
   have hir:=(hready i).1 (List.mem_of_getElem? hi)
   obtain⟨hin,hed⟩:=hir
   obtain⟨hisz,hil⟩:=(hmem i).1 hin
   obtain⟨A,B,hAB⟩:=List.append_of_mem hin
   have ho:ops[i]? = some ops[i]:=by simp[hisz]
   simp only[]
   rw[linearise_go_acc,List.reverse_singleton,List.singleton_append,List.filterMap_cons,ho]
   simp only
   rw[hAB,List.filterMap_append,List.filterMap_cons,ho]at h
   simp only at h
   have hpairs:∀j∈A,∀x,ops[j]? = some x->a3K env ops sl x ops[i]=true/\(b0a x=true->a1v ops[i]=true):=by
    intro j hj x hjx
    rw[hAB,List.pairwise_append]at hpw
    have hp:=(hpw.2.2 j hj i (List.mem_cons_self ..)).1
    have hjr:j∈a2I S listed:=by rw[hAB];exact List.mem_append_left _ hj
    obtain⟨hjs,hjl⟩:=(hmem j).1 hjr
    unfold b7I at hp
    rw[hjx,ho]at hp
    simp only[Bool.or_eq_true,Bool.and_eq_true,Bool.not_eq_true']at hp
    rcases hp with h2 |⟨h2,h3⟩
    ·exfalso
     have h3:=b2A hM hc (i+1) i j (Nat.lt_succ_self i) hisz hjs h2 (fun o e h4 h5 h6=>hed o h4 e h5 h6)
     rw[b4I h3]at hjl;cases hjl
    ·refine⟨h2,fun hm=>?_⟩
     rcases h3 with h3|h3
     ·rw[hm]at h3;cases h3
     ·exact h3
   have hcomm:∀x∈A.filterMap (ops[·]?),a3K env ops sl x ops[i]=true:=by
    intro x hx
    rw[List.mem_filterMap]at hx
    obtain⟨j,hj,hjx⟩:=hx
    exact(hpairs j hj x hjx).1
   have hrest':a2I S (listed.setIfInBounds i true)=A++B:=by
    have hne:(A++i::B).filter (fun k=>k != i)=A++B:=by
     rw[hAB,List.nodup_append]at hnd
     obtain⟨h1,h2,h3⟩:=hnd
     rw[List.nodup_cons]at h2
     rw[List.filter_append,List.filter_cons]
     simp only[bne_self_eq_false,Bool.false_eq_true,if_false]
     rw[List.filter_eq_self.2 fun x hx=>by simp;exact fun e=>h3 x hx i (List.mem_cons_self ..) e,List.filter_eq_self.2 fun x hx=>by simp;rintro rfl;exact h2.1 hx]
    rw[<-hne,<-hAB]
    simp only[a2I,List.filter_filter]
    refine List.filter_congr fun k hk=>?_
    have hk:=hlt k hk
    simp only[Array.getD_eq_getD_getElem?]
    by_cases hki:k=i
    ·subst hki
     rw[Array.getElem?_setIfInBounds_self_of_lt (by omega)]
     simp
    ·rw[Array.getElem?_setIfInBounds_ne (fun e=>hki e.symm)]
     simp[hki]
   have hc':b2c ops (listed.setIfInBounds i true):=by
    intro k o e hk ho' he hb
    have hmono:listed.getD e.on false=true ->(listed.setIfInBounds i true).getD e.on false=true:=by
     intro h9
     simp only[Array.getD_eq_getD_getElem?]at h9 ⊢
     by_cases hki:i=e.on
     ·subst hki;rw[Array.getElem?_setIfInBounds_self_of_lt (by omega)];rfl
     ·rw[Array.getElem?_setIfInBounds_ne hki];exact h9
    refine hmono ?_
    by_cases hki:i=k
    ·subst hki;exact hed o ho' e he hb
    ·refine hc k o e ?_ ho' he hb
     simp only[Array.getD_eq_getD_getElem?]at hk ⊢
     rw[Array.getElem?_setIfInBounds_ne hki]at hk;exact hk
   have hlen:(a2I S (listed.setIfInBounds i true)).length<=fuel:=by
    rw[hrest']
    rw[hAB]at hl
    simp only[List.length_append,List.length_cons]at hl ⊢;omega
   have hsub:∀j∈A++B,j∈a2I S listed:=fun j hj=>by
    rw[hAB]
    rcases List.mem_append.1 hj with hj|hj
    ·exact List.mem_append_left _ hj
    ·exact List.mem_append_right _ (List.mem_cons_of_mem _ hj)
   rcases a2o.1 h with⟨fA,HA,k1,k2⟩ |⟨v,f,K,k1,k2⟩
   ·rcases O3.1 k2 with⟨vy,Hy,k3,k4⟩ |⟨v,K,k3,k4⟩
    ·obtain⟨K,f',g1,g2,g3⟩:=b97 hcomm k1 k3
     obtain⟨f2,g4,g5⟩:=a5P g3 k4
     have g6:I5 env orc L sl ops ((a2I S (listed.setIfInBounds i true)).filterMap (ops[·]?)) (M5 ops[i].dst vy fr) K=some (ex,f2,H1):=by
      rw[hrest',List.filterMap_append]
      exact a2o.2 (.inl ⟨_,_,g2,g4⟩)
     obtain⟨f3,H3,q1,q2,q3⟩:=b2k hE hM hall hlt hP hal fuel (t/(Region.ready .any ops listed).length) _ _ _ _ _ _ (by simp[hsz]) hc' hlen g6 (fun v hv j hj o hjo hja=>by
      rw[hrest']at hj
      exact hab v hv j (hsub j hj) o hjo hja)
     exact⟨f3,H3,O3.2 (.inl ⟨_,_,g1,q1⟩),fun he=>⟨(q2 he).1,g5.trans (q2 he).2⟩,q3⟩
    ·simp only[Prod.mk.injEq]at k4
     obtain⟨rfl,rfl,rfl⟩:=k4
     have hm:=b53 k3
     simp only[b0a,Bool.and_eq_true,Bool.not_eq_true']at hm
     have g1:=b98 hm.1.1 hm.2 hcomm k1 k3
     exact⟨fr,H1,O3.2 (.inr ⟨v,H1,g1,rfl⟩),(fun he=>by cases he),.refl _⟩
   ·simp only[Prod.mk.injEq]at k2
    obtain⟨rfl,rfl,rfl⟩:=k2
    obtain⟨x,hx,hxm⟩:=c0M k1
    rw[List.mem_filterMap]at hx
    obtain⟨j,hj,hjx⟩:=hx
    have hay:=(hpairs j hj x hjx).2 hxm
    have hk1:=hab v rfl i hin _ ho hay
    have key:=fun(z:Obj) (u:V)=>b4o (z:=z) (u:=u) hay hcomm k1 hk1
    obtain⟨q1,q2,_⟩:=key .gone .undef
    obtain⟨u,z,g1⟩:=opVP_al (orc:=orc) (L:=L) (sl:=sl) (ops:=ops) (fr:=fr) hay (hal _ (by simp)) q1 q2
    obtain⟨_,_,f2,g2⟩:=key z u
    have g6:I5 env orc L sl ops ((a2I S (listed.setIfInBounds i true)).filterMap (ops[·]?)) (M5 ops[i].dst u fr) (hset (newName ops[i]) z H)=some (.panic v,f2,hset (newName ops[i]) z H1):=by
     rw[hrest',List.filterMap_append]
     exact a2o.2 (.inr ⟨_,_,_,g2,rfl⟩)
    obtain⟨f3,H3,p1,p2,p3⟩:=b2k hE hM hall hlt hP hal fuel (t/(Region.ready .any ops listed).length) _ _ _ _ _ _ (by simp[hsz]) hc' hlen g6 (fun v' hv j hj o hjo hja=>by
     rw[hrest']at hj
     rw[q9,if_neg]
     ·exact hab v' hv j (hsub j hj) o hjo hja
     ·rw[hAB,List.pairwise_append,List.pairwise_cons]at hpw
      rcases List.mem_append.1 hj with hj|hj
      ·have:=(hpw.2.2 j hj i (List.mem_cons_self ..)).2.1
       unfold b06 at this
       rw[hjo,ho]at this
       simp only[hja,hay,Bool.and_self,Bool.not_true,Bool.false_or,Bool.not_eq_true']at this
       intro he;rw[he]at this;simp at this
      ·have:=(hpw.2.1.1 j hj).2.1
       unfold b06 at this
       rw[hjo,ho]at this
       simp only[hja,hay,Bool.and_self,Bool.not_true,Bool.false_or,Bool.not_eq_true']at this
       intro he;rw[he]at this;simp at this)
    exact⟨f3,H3,O3.2 (.inl ⟨_,_,g1,p1⟩),(fun he=>by cases he),(b0T hk1).trans p3⟩
theorem b4X:∀(n:Nat) (S:List Nat),S.Nodup ->(∀j∈S,j<n)->S.length<=n
 | 0,[],_,_=>Nat.le_refl _
 | 0,a::_,_,h=>by have:=h a (List.mem_cons_self ..);omega
 | n+1,S,hn,h=>by
  have h1:=b4X n (S.erase n) (hn.erase n) (fun j hj=>by
   have hne:j≠n:=by rintro rfl;exact hn.not_mem_erase hj
   have:=h j (List.mem_of_mem_erase hj)
   omega)
  rw[List.length_erase]at h1
  split at h1<;>omega
theorem a9o:∀(S:List Nat),a4C ops S=S.filterMap (ops[·]?)
 | []=>rfl
 | i::r=>by
  simp only[a4C,List.filterMap_cons]
  cases ops[i]? with
  | none=>exact a9o r
  | some o=>simp only[a9o r]
theorem a5g:∀{l:List Oper} {o:Oper},o∈l->a1v o=true->newName o∈a2Y l
 | [],o,h,_=>by cases h
 | a::r,o,h,ha=>by
  simp only[a2Y]
  rcases List.mem_cons.1 h with rfl|h
  ·rw[ha];exact List.mem_cons_self ..
  ·cases a1v a with
   | true=>exact List.mem_cons_of_mem _ (a5g h ha)
   | false=>exact a5g h ha
theorem b5J {nr:Nat}{S:List Nat}{r:Res}(h:a2O env orc nr ops S sl fr H=some r):∃L,(∃f2 H2,I5 env orc L sl ops (a4C ops S) fr H=some (.normal,f2,H2)/\r =(.normal,f2,H2)) ∨
  ∃v f2 H2 v' H',I5 env orc L sl ops (a4C ops S) fr H=some (.panic v,f2,H2)/\b5t (a2Y ops.toList) H2=true/\finish nr v H2=some (v',H')/\r =(.panic v',[],H'):=by
 unfold a2O at h
 split at h
 ·cases h
 ·split at h
  ·cases h
  ·rename_i L _
   refine⟨L,?_⟩
   split at h
   ·rename_i f2 H2 ho
    cases h
    exact .inl ⟨f2,H2,ho,rfl⟩
   ·rename_i v f2 H2 ho
    split at h
    ·rename_i v' H' ha hf
     cases h
     exact .inr ⟨v,f2,H2,v',H',ho,ha,hf,rfl⟩
    ·cases h
   ·cases h
end
end Go.Vm
namespace Go.Vm
section
variable {P:Program} {T:List (Nat×Ty)} {ρ ρ':Rho} {lab:Lab} {w:World} {H:Hp} {fr:Fr} {a:Act} {n nr:Nat} {env:Env} {orc:Orc} {ops:Array Oper}
def rest (ops:Array Oper)(listed:Array Bool):List Nat:=(List.range ops.size).filter fun i=>!listed.getD i true
def Closed (ops:Array Oper)(listed:Array Bool):Prop:=∀(i:Nat) (o:Oper) (e:Edge),listed.getD i true=true->ops[i]? = some o->e∈o.after.toList->Region.binds .any e=true->listed.getD e.on false=true
theorem b0L {listed:Array Bool}(hsz:listed.size=ops.size)(hc:Closed ops listed):∀(d i j:Nat),b6d ops d i j=true ->
  (∀(o:Oper) (e:Edge),ops[i]? = some o->e∈o.after.toList->Region.binds .any e=true->listed.getD e.on false=true)->listed.getD j false=true
 | 0,_,_,h,_=>by cases h
 | d+1,i,j,h,hi=>by
  simp only[b6d]at h
  cases ho:ops[i]? with
  | none=>rw[ho]at h;cases h
  | some o =>
   rw[ho]at h
   simp only[List.any_eq_true,Bool.and_eq_true,Bool.or_eq_true]at h
   obtain⟨e,he,hb,h⟩:=h
   have hl:=hi o e ho he hb
   rcases h with h|h
   ·rw[Nat.eq_of_beq_eq_true h]at hl;exact hl
   ·refine b0L hsz hc d e.on j h (fun o' e' ho' he' hb'=>hc e.on o' e' ?_ ho' he' hb')
    simp only[Array.getD_eq_getD_getElem?]at hl ⊢
    cases hq:listed[e.on]? with
    | none=>rfl
    | some b=>rw[hq]at hl;exact hl
theorem c1m {A B:List Nat}{i:Nat}(hn:(A++i::B).Nodup):(A++i::B).filter (fun k=>k != i)=A++B:=by
 rw[List.nodup_append]at hn
 obtain⟨h1,h2,h3⟩:=hn
 rw[List.nodup_cons]at h2
 rw[List.filter_append,List.filter_cons]
 simp only[bne_self_eq_false,Bool.false_eq_true,if_false]
 rw[List.filter_eq_self.2 fun x hx=>by simp;exact fun e=>h3 x hx i (List.mem_cons_self ..) e,List.filter_eq_self.2 fun x hx=>by simp;rintro rfl;exact h2.1 hx]
theorem lin_ok {b:Bool}(hE:b1a ops=true)(hP:b9t env ops b=true):∀(fuel t:Nat) (listed:Array Bool) (fr:Fr) (H:Hp) (f1:Fr) (H1:Hp),listed.size=ops.size->Closed ops listed ->(rest ops listed).length<=fuel ->
  (b=true->a19 f1 ((rest ops listed).filterMap (ops[·]?))) ->
  H7 env orc ops ((rest ops listed).filterMap (ops[·]?)) fr H=some (.normal,f1,H1) ->
  ∃f2,H7 env orc ops ((Region.linearise.go .any ops fuel t listed []).filterMap (ops[·]?)) fr H=some (.normal,f2,H1)/\a5K f1 f2
 | 0,t,listed,fr,H,f1,H1,hsz,hc,hl,hC,h=>by
  have:rest ops listed=[]:=by simpa using hl
  rw[this]at h
  simp only[Region.linearise.go,List.reverse_nil]
  exact⟨f1,h,.refl _⟩
 | fuel+1,t,listed,fr,H,f1,H1,hsz,hc,hl,hC,h=>by
  have hnd:(rest ops listed).Nodup:=List.Nodup.sublist List.filter_sublist List.nodup_range
  have hpw:(rest ops listed).Pairwise (· < ·):=List.Pairwise.sublist List.filter_sublist List.pairwise_lt_range
  have hmem:∀j,j∈rest ops listed↔j<ops.size/\listed.getD j true=false:=fun j=>by
   simp only[rest,List.mem_filter,List.mem_range,Bool.not_eq_true']
  have hready:∀j,j∈Region.ready .any ops listed↔j∈rest ops listed /\ ∀o,ops[j]? = some o -> ∀e∈o.after.toList,Region.binds .any e=true->listed.getD e.on false=true:=by
   intro j
   rw[hmem]
   simp only[Region.ready,List.mem_filter,List.mem_range,Bool.and_eq_true,Bool.not_eq_true',and_assoc]
   refine and_congr_right fun hj=>and_congr_right fun _=>?_
   have ho:ops[j]? = some ops[j]:=by simp[hj]
   rw[ho]
   simp only[Option.map_some,Option.getD_some,Array.all_eq_true_iff_forall_mem,Bool.or_eq_true,Bool.not_eq_true',Option.some.injEq]
   constructor
   ·rintro h1 o rfl e he hb
    rcases h1 e (by simpa using he)with h2|h2
    ·rw[hb]at h2;cases h2
    ·exact h2
   ·intro h1 e he
    cases hb:Region.binds .any e with
    | false=>exact .inl rfl
    | true=>exact .inr (h1 _ rfl e (by simpa using he) hb)
  simp only[Region.linearise.go]
  change ∃f2,H7 env orc ops ((match (Region.ready .any ops listed)[t%(Region.ready .any ops listed).length]? with
   | some i=>Region.linearise.go .any ops fuel (t/(Region.ready .any ops listed).length) (listed.setIfInBounds i true) [i]
   | none=>[].reverse).filterMap (ops[·]?)) fr H=some (.normal,f2,H1)/\a5K f1 f2
  cases hi:(Region.ready .any ops listed)[t%(Region.ready .any ops listed).length]? with
  | none =>
   have hnil:Region.ready .any ops listed=[]:=by
    cases hr:Region.ready .any ops listed with
    | nil=>rfl
    | cons x xs =>
     rw[hr]at hi
     have hlt:t%(x::xs).length<(x::xs).length:=Nat.mod_lt _ (by simp)
     simp at hi
     simp at hlt
     omega
   have hr0:rest ops listed=[]:=by
    cases hr:rest ops listed with
    | nil=>rfl
    | cons i0 xs =>
     have hin:i0∈rest ops listed:=by rw[hr];exact List.mem_cons_self ..
     have hrd:i0∈Region.ready .any ops listed:=by
      refine(hready i0).2 ⟨hin,fun o ho e he hb=>?_⟩
      have hi0:=((hmem i0).1 hin).1
      have hlt:e.on<i0:=by
       simp only[b1a,List.all_eq_true,List.mem_range]at hE
       have:=hE i0 hi0
       rw[ho]at this
       simp only[List.all_eq_true,Bool.or_eq_true,Bool.not_eq_true']at this
       rcases this e he with h2|h2
       ·rw[hb]at h2;cases h2
       ·simpa [Nat.blt_eq]using h2
      have hon:e.on<ops.size:=by omega
      have hno:e.on ∉ rest ops listed:=by
       rw[hr]at hpw ⊢
       rw[List.pairwise_cons]at hpw
       simp only[List.mem_cons,not_or]
       exact⟨by omega,fun h3=>by have:=hpw.1 _ h3;omega⟩
      rw[hmem]at hno
      have h4:listed.getD e.on true=true:=by
       cases hq:listed.getD e.on true with
       | true=>rfl
       | false=>exact absurd ⟨hon,hq⟩ hno
      simp only[Array.getD_eq_getD_getElem?]at h4 ⊢
      rw[Array.getElem?_eq_getElem (by omega)]at h4 ⊢
      exact h4
     rw[hnil]at hrd
     cases hrd
   rw[hr0]at h
   exact⟨f1,h,.refl _⟩
  | some i =>
   have hir:=(hready i).1 (List.mem_of_getElem? hi)
   obtain⟨hin,hed⟩:=hir
   obtain⟨hisz,hil⟩:=(hmem i).1 hin
   obtain⟨A,B,hAB⟩:=List.append_of_mem hin
   have ho:ops[i]? = some ops[i]:=by simp[hisz]
   simp only[]
   rw[linearise_go_acc,List.reverse_singleton,List.singleton_append,List.filterMap_cons,ho]
   simp only
   rw[hAB,List.filterMap_append,List.filterMap_cons,ho]at h hC
   simp only at h hC
   have hcomm:∀x∈A.filterMap (ops[·]?),b4v env ops b x ops[i]=true:=by
    intro x hx
    rw[List.mem_filterMap]at hx
    obtain⟨j,hj,hjx⟩:=hx
    have hlt:j<i:=by
     rw[hAB,List.pairwise_append]at hpw
     exact hpw.2.2 j hj i (List.mem_cons_self ..)
    have hjr:j∈rest ops listed:=by rw[hAB];exact List.mem_append_left _ hj
    have hjl:=((hmem j).1 hjr).2
    simp only[b9t,List.all_eq_true,List.mem_range]at hP
    have:=hP i hisz j hlt
    rw[hjx,ho]at this
    simp only[Bool.or_eq_true]at this
    rcases this with h2|h2
    ·exact h2
    ·have h3:=b0L hsz hc 8 i j h2 (fun o e h4 h5 h6=>hed o h4 e h5 h6)
     simp only[Array.getD_eq_getD_getElem?]at h3 hjl
     have hjs:j<listed.size:=by omega
     rw[Array.getElem?_eq_getElem hjs]at h3 hjl
     simp at h3 hjl
     rw[h3]at hjl;cases hjl
   obtain⟨f2,h5,h6⟩:=b4p hcomm hC h
   obtain⟨v,H',h7,h8⟩:=R9.1 h5
   have hrest':rest ops (listed.setIfInBounds i true)=A++B:=by
    rw[<-c1m (A:=A) (B:=B) (i:=i) (by rw[<-hAB];exact hnd),<-hAB]
    simp only[rest,List.filter_filter]
    refine List.filter_congr fun k hk=>?_
    rw[List.mem_range]at hk
    simp only[Array.getD_eq_getD_getElem?]
    by_cases hki:k=i
    ·subst hki
     rw[Array.getElem?_setIfInBounds_self_of_lt (by omega)]
     simp
    ·rw[Array.getElem?_setIfInBounds_ne (fun e=>hki e.symm)]
     simp[hki]
   rw[<-List.filterMap_append,<-hrest']at h8
   have hc':Closed ops (listed.setIfInBounds i true):=by
    intro k o e hk ho' he hb
    have hmono:listed.getD e.on false=true ->(listed.setIfInBounds i true).getD e.on false=true:=by
     intro h9
     simp only[Array.getD_eq_getD_getElem?]at h9 ⊢
     by_cases hki:i=e.on
     ·subst hki;rw[Array.getElem?_setIfInBounds_self_of_lt (by omega)];rfl
     ·rw[Array.getElem?_setIfInBounds_ne hki];exact h9
    refine hmono ?_
    by_cases hki:i=k
    ·subst hki;exact hed o ho' e he hb
    ·refine hc k o e ?_ ho' he hb
     simp only[Array.getD_eq_getD_getElem?]at hk ⊢
     rw[Array.getElem?_setIfInBounds_ne hki]at hk;exact hk
   have hlen:(rest ops (listed.setIfInBounds i true)).length<=fuel:=by
    rw[hrest']
    rw[hAB]at hl
    simp only[List.length_append,List.length_cons]at hl ⊢;omega
   obtain⟨f3,h9,h10⟩:=lin_ok hE hP fuel (t/(Region.ready .any ops listed).length) _ _ _ _ _ (by simp[hsz]) hc' hlen (fun hb=>by
    rw[hrest',List.filterMap_append]
    refine((hC hb).congr h6).sub ?_
    exact List.Sublist.append_left (List.sublist_cons_self _ _) _) h8
   exact⟨f3,R9.2 ⟨v,H',h7,h9⟩,h6.trans h10⟩
theorem a6E {α:Type}:∀(l:List α) (g:Nat->Option α) (k:Nat),(∀j,g (k+j)=l[j]?) ->(List.range' k l.length).filterMap g=l
 | [],g,k,_=>rfl
 | x::l,g,k,h=>by
  have h0:g k=some x:=by simpa using h 0
  rw[List.length_cons,List.range'_succ,List.filterMap_cons,h0]
  simp only
  rw[a6E l g (k+1) (fun j=>by have:=h (j+1);simpa [Nat.add_assoc,Nat.add_comm 1 j]using this)]
theorem a6i (ops:Array Oper):(List.range ops.size).filterMap (ops[·]?)=ops.toList:=by
 rw[List.range_eq_range',<-Array.length_toList]
 exact a6E ops.toList _ 0 (fun j=>by simp)
theorem a94:∀{l:List Oper} {fr:Fr} {H:Hp} {r:Res},H7 env orc ops l fr H=some r->r.1=.normal ∨ ∃v,r.1=.panic v
 | [],fr,H,r,h=>by simp only[H7]at h;cases h;exact .inl rfl
 | o::l,fr,H,r,h=>by
  simp only[H7]at h
  split at h
  ·cases h
  ·exact a94 h
  ·split at h
   ·cases h
   ·exact a94 h
   ·cases h;exact .inr ⟨_,rfl⟩
theorem b39 {b:Bool}{r:Option Res}{x:Res}(h:a4n b ops r=some x):r=some x/\(b=true -> ∃fr H,x =(.normal,fr,H)/\((a1h ops.toList).all fun t=>a5q (look t fr))=true):=by
 cases b with
 | false=>exact⟨h,fun hb=>by cases hb⟩
 | true =>
  simp only[a4n]at h
  split at h
  ·rename_i f1 H1
   cases hc:(a1h ops.toList).all fun t=>a5q (look t f1)with
   | false=>rw[hc]at h;cases h
   | true=>rw[hc]at h;simp only[gd,Option.some.injEq]at h;subst h;exact⟨rfl,fun _=>⟨_,_,rfl,hc⟩⟩
  ·cases h
def a3J (env:Env)(f nt:Nat):Code->Bool
 | .region id ops d=>(ops.toList.all fun o=>match o.dst with|some d=>Nat.blt d nt|none=>true)&&(match a9Q env f id d with
  | some (S,sl)=>sepB env ops S sl (env.mask f id)
  | none=>!d||drawB env ops (env.loose f))
 | .seq a b=>a3J env f nt a&&a3J env f nt b
 | .cond _ a b=>a3J env f nt a&&a3J env f nt b
 | .block _ a=>a3J env f nt a
 | .loop a=>a3J env f nt a
 | _=>true
def b5s (env:Env)(k:Nat)(orc:Orc):Prop:=∀f nr body fr H r,orc (.loop f nr body fr) H=some (.res r) -> ∀ρ lab w a n nt,a3J env f nt body=true->nt<=n->Sim ρ lab H w->FOk ρ lab w fr a n ->
 Code.rounds env.P body (Post nr n ρ lab w r) k a w
theorem Post.frEq {f1 f2:Fr}{ex:Ex}{e:Exit}{w':World}(h:a5K f1 f2)(hp:Post nr n ρ lab w (ex,f2,H) e a w'):Post nr n ρ lab w (ex,f1,H) e a w':=by
 obtain⟨ρ',lab',h1,h2,h3,h4,h5⟩:=hp
 refine⟨ρ',lab',h1,h2,h3,h4,?_⟩
 have key:FOk ρ' lab' w' f2 a n->FOk ρ' lab' w' f1 a n:=fun hf=>⟨fun t=>by rw[h t];exact hf.rel t,hf.size,hf.defers⟩
 cases ex<;>cases e<;>first|exact h5.elim|exact key h5|exact⟨h5.1,key h5.2⟩|exact h5
theorem c1I (hM:a5f env)(hT:TOk env.P env.T)(hm:env.P.follows .mixedOrders=true)(hO:a6e env.P orc){id nt:Nat}{d:Bool}{r:Res}{f:Nat}(hB:a3J env f nt (.region id ops d)=true)(hn:nt<=n)
  (h:u7 env orc f nr (.region id ops d) fr H=some r) (hS:Sim ρ lab H w) (hF:FOk ρ lab w fr a n) {Q:Exit->Act->World->Prop} (hQ:∀e a' w',Post nr n ρ lab w r e a' w'->Q e a' w') :
  (Code.region id ops d).wp env.P Q a w:=by
 simp only[a3J,Bool.and_eq_true]at hB
 obtain⟨hB1,hB2⟩:=hB
 have hdst:∀(i:Nat) (o:Oper) (dd:Nat),ops[i]? = some o->o.dst=some dd->dd<n:=by
  intro i o dd ho hd
  rw[List.all_eq_true]at hB1
  have:=hB1 o (by rw[<-Array.getElem?_toList]at ho;exact List.mem_of_getElem? ho)
  rw[hd]at this
  simp only[Nat.blt_eq]at this
  omega
 simp only[u7]at h
 cases hso:a9Q env f id d with
 | some Ssl =>
  obtain⟨S,sl⟩:=Ssl
  rw[hso]at h hB2
  simp only at h hB2
  have hd:d=true:=by
   cases d with
   | true=>rfl
   | false=>cases hso
  subst hd
  simp only[sepB,Bool.and_eq_true]at hB2
  obtain⟨⟨⟨⟨⟨b1,b2⟩,b3⟩,b4⟩,b5⟩,b6⟩:=hB2
  rw[List.all_eq_true]at b4 b5 b6
  have hall:∀j,j<ops.size->j∈S:=fun j hj=>a5R.1 (b4 j (List.mem_range.2 hj))
  have hlt:∀j,j∈S->j<ops.size:=fun j hj=>by simpa [Nat.blt_eq]using b5 j hj
  refine wp_region_draw fun t=>?_
  simp only[Region.schedule,hm,Bool.true_or,if_true]
  have hr:a2I S (Array.replicate ops.size false)=S:=by
   refine List.filter_eq_self.2 fun i hi=>?_
   have:=hlt i hi
   simp[this]
  have hcl:b2c ops (Array.replicate ops.size false):=fun i o e hi ho=>by
   rcases Nat.lt_or_ge i ops.size with hlt|hge
   ·simp[hlt]at hi
   ·rw[Array.getElem?_eq_none hge]at ho;cases ho
  have hlen:(a2I S (Array.replicate ops.size false)).length<=ops.size:=by
   rw[hr]
   have hnd:S.Nodup:=(a5X b3).imp fun h=>h.2.2
   exact b4X _ _ hnd hlt
  have g:V5 w {w with drawn:=w.drawn+1}:=⟨Nat.le_refl _,rfl,rfl,rfl,fun _ _=>rfl⟩
  have E:=g.ext lab
  obtain⟨L,⟨f1,H1,k1,rfl⟩ |⟨v,f1,H1,v',H',k1,k2,k3,rfl⟩⟩:=b5J h
  ·rw[a9o,<-hr]at k1
   obtain⟨f2,H2,k4,k5,_⟩:=b2k b1 b2 hall hlt (a5X b3) b6 ops.size t (Array.replicate ops.size false) fr H _ _ _ (by simp) hcl hlen k1 (fun v hv=>by cases hv)
   obtain⟨rfl,k6⟩:=k5 rfl
   exact a7t hM hT hO hdst _ ρ lab _ H fr a _ (a4k k4) (hS.grew g) (hF.ext E (.refl _)) (fun e a' w' hp=>hQ e a' w' ((hp.trans E (a0V.of_le (.refl _) _)).frEq k6))
  ·rw[a9o,<-hr]at k1
   obtain⟨f2,H2,k4,_,k6⟩:=b2k b1 b2 hall hlt (a5X b3) b6 ops.size t (Array.replicate ops.size false) fr H _ _ _ (by simp) hcl hlen k1 (fun v' hv i hi o ho ha=>by
    have:=List.all_eq_true.1 k2 (newName o) (a5g (by rw[<-Array.getElem?_toList]at ho;exact List.mem_of_getElem? ho) ha)
    cases hq:hget (newName o) H1 with
    | none=>rfl
    | some z=>rw[hq]at this;cases this)
   have k7:=b84 k6 k3
   refine a7t (nr:=nr) hM hT hO hdst _ ρ lab _ H fr a _ (a4k k4) (hS.grew g) (hF.ext E (.refl _)) (fun e a' w' hp=>hQ e a' w' ?_)
   have hp:=hp.trans E (a0V.of_le (.refl _) _)
   obtain⟨ρ1,a1I,q1,q2,q3,q4,q5⟩:=hp
   cases e with
   | panic ch =>
    obtain⟨x,q6,q7⟩:=q5
    obtain⟨ρ2,lab2,r1,r2,r3,r4,_⟩:=b4F q1 q7 k7
    exact⟨ρ2,lab2,r1,q2.trans r2,q3.trans r3 (Nat.le_refl _),q4,x,q6,r4⟩
   | _=>exact q5.elim
 | none =>
 rw[hso]at h hB2
 simp only at h hB2
 cases d with
 | false =>
  refine wp_region ?_
  have h':H7 env orc ops ops.toList fr H=some r:=by
   simp only[Bool.false_and,a4n]at h
   split at h
   ·rename_i hq;rw[hq];exact h
   ·exact h
  rw[<-a6i ops]at h'
  exact a7t hM hT hO hdst _ ρ lab w H fr a r h' hS hF hQ
 | true =>
  simp only[Bool.not_true,Bool.false_or,drawB,Bool.and_eq_true]at hB2
  simp only[Bool.true_and]at h
  obtain⟨h,hchk⟩:=b39 h
  refine wp_region_draw fun t=>?_
  simp only[Region.schedule,hm,Bool.true_or,if_true]
  split at h
  ·cases h
  ·rename_i hno
   obtain⟨ex,f1,H1⟩:=r
   rcases a94 h with h1 |⟨v,h1⟩
   ·simp only at h1
    subst h1
    have hr:rest ops (Array.replicate ops.size false)=List.range ops.size:=by
     refine List.filter_eq_self.2 fun i hi=>?_
     rw[List.mem_range]at hi
     simp[hi]
    rw[<-a6i ops,<-hr]at h
    obtain⟨f2,h2,h3⟩:=lin_ok hB2.1.1 hB2.1.2 ops.size t (Array.replicate ops.size false) fr H f1 H1 (by simp) (fun i o e hi ho=>by
     rcases Nat.lt_or_ge i ops.size with hlt|hge
     ·simp[hlt]at hi
     ·rw[Array.getElem?_eq_none hge]at ho;cases ho) (by rw[hr];simp) (fun hb=>by
     rw[hr,a6i]
     obtain⟨f',H',hx,hy⟩:=hchk hb
     cases hx
     have hs:=hB2.2
     rw[hb]at hs
     exact c0S (by simpa using hs) hy) h
    have g:V5 w {w with drawn:=w.drawn+1}:=⟨Nat.le_refl _,rfl,rfl,rfl,fun _ _=>rfl⟩
    have E:=g.ext lab
    refine a7t hM hT hO hdst _ ρ lab _ H fr a _ h2 (hS.grew g) (hF.ext E (.refl _)) (fun e a' w' hp=>hQ e a' w' ((hp.trans E (a0V.of_le (.refl _) _)).frEq h3))
   ·simp only at h1
    subst h1
    exact absurd h (hno v f1 H1)
theorem a8U {c:Code}{Q Q':Exit->Act->World->Prop}(hq:∀e a w,Q e a w->Q' e a w):∀(k:Nat) (a:Act) (w:World),Code.rounds P c Q k a w->Code.rounds P c Q' k a w
 | 0,_,_,h=>h
 | k+1,a,w,h=>by
  rw[rounds_succ]at h ⊢
  refine wp_mono h fun e a' w' he=>?_
  cases e<;>first|exact a8U hq k a' w' he|exact hq _ _ _ he
theorem c0e (hM:a5f env)(hT:TOk env.P env.T)(hm:env.P.follows .mixedOrders=true)(hO:a6e env.P orc){k:Nat}(hL:b5s env k orc){f nt:Nat}:∀(c:Code) (ρ:Rho) (lab:Lab) (w:World) (H:Hp) (fr:Fr) (a:Act) (r:Res) (n:Nat),
  a3J env f nt c=true->nt<=n->u7 env orc f nr c fr H=some r->Sim ρ lab H w->FOk ρ lab w fr a n -> ∀Q:Exit->Act->World->Prop,(∀e a' w',Post nr n ρ lab w r e a' w'->Q e a' w')->c.wp env.P Q a w:=by
 intro c
 induction c with
 | skip =>
  intro ρ lab w H fr a r n hB hn h hS hF Q hQ
  simp only[u7]at h;cases h
  exact wp_skip (hQ _ _ _ ⟨ρ,lab,hS,.refl _ _,a0V.of_le (.refl _) _,hF.defers,hF⟩)
 | label l =>
  intro ρ lab w H fr a r n hB hn h hS hF Q hQ
  simp only[u7]at h;cases h
  exact wp_label (hQ _ _ _ ⟨ρ,lab,hS,.refl _ _,a0V.of_le (.refl _) _,hF.defers,hF⟩)
 | exit i =>
  intro ρ lab w H fr a r n hB hn h hS hF Q hQ
  simp only[u7]at h;cases h
  exact wp_exit (hQ _ _ _ ⟨ρ,lab,hS,.refl _ _,a0V.of_le (.refl _) _,hF.defers,rfl,hF⟩)
 | ret =>
  intro ρ lab w H fr a r n hB hn h hS hF Q hQ
  simp only[u7]at h;cases h
  exact wp_ret (hQ _ _ _ ⟨ρ,lab,hS,.refl _ _,a0V.of_le (.refl _) _,hF.defers,hF⟩)
 | region id ops d =>
  intro ρ lab w H fr a r n hB hn h hS hF Q hQ
  exact c1I hM hT hm hO hB hn h hS hF hQ
 | seq x y ihx ihy =>
  intro ρ lab w H fr a r n hB hn h hS hF Q hQ
  simp only[a3J,Bool.and_eq_true]at hB
  simp only[u7]at h
  refine wp_seq ?_
  cases hx:u7 env orc f nr x fr H with
  | none=>rw[hx]at h;cases h
  | some r1 =>
   rw[hx]at h
   refine ihx ρ lab w H fr a r1 n hB.1 hn hx hS hF _ fun e a1 w1 hp=>?_
   obtain⟨ex,fr1,H1⟩:=r1
   obtain⟨ρ1,a1I,h1,h2,h3,h4,h5⟩:=hp
   cases ex with
   | normal =>
    simp only at h h5
    cases e with
    | normal =>
     unfold cutAt at h
     cases hcu:env.cut f (a1g y)with
     | false =>
      rw[hcu]at h
      exact ihy ρ1 a1I w1 H1 fr1 a1 r n hB.2 hn h h1 h5 Q fun e a' w' hp=>hQ e a' w' (hp.trans h2 h3)
     | true =>
      rw[hcu]at h
      simp only at h
      split at h
      ·rename_i fr2 H2 hnm
       obtain⟨ρ2,lab2,k1,k2,k3,k4⟩:=b1h h1 h5.rel hnm
       exact ihy ρ2 lab2 w1 H2 fr2 a1 r n hB.2 hn h k1 ⟨k4,h5.size,h5.defers⟩ Q fun e a' w' hp=>hQ e a' w' ((hp.trans k2 k3).trans h2 h3)
      ·cases h
    | _=>exact h5.elim
   | ret =>
    simp only[Option.some.injEq]at h h5
    subst h
    cases e with
    | ret=>exact hQ _ _ _ ⟨ρ1,a1I,h1,h2,h3,h4,h5⟩
    | _=>exact h5.elim
   | exit i =>
    simp only[Option.some.injEq]at h h5
    subst h
    cases e with
    | exit j=>exact hQ _ _ _ ⟨ρ1,a1I,h1,h2,h3,h4,h5⟩
    | _=>exact h5.elim
   | panic v =>
    simp only[Option.some.injEq]at h h5
    subst h
    cases e with
    | panic ch=>exact hQ _ _ _ ⟨ρ1,a1I,h1,h2,h3,h4,h5⟩
    | _=>exact h5.elim
 | cond c x y ihx ihy =>
  intro ρ lab w H fr a r n hB hn h hS hF Q hQ
  simp only[a3J,Bool.and_eq_true]at hB
  simp only[u7]at h
  split at h
  ·rename_i t hc
   have hb:=N9 hF.rel hc
   generalize hcv:a.eval c=cv at hb
   cases hb
   split at h
   ·exact wp_cond_true hcv (ihx ρ lab w H fr a r n hB.1 hn h hS hF Q hQ)
   ·exact wp_cond_false hcv (ihy ρ lab w H fr a r n hB.2 hn h hS hF Q hQ)
  ·cases h
 | block id x ihx =>
  intro ρ lab w H fr a r n hB hn h hS hF Q hQ
  simp only[a3J]at hB
  simp only[u7]at h
  refine wp_block ?_
  cases hx:u7 env orc f nr x fr H with
  | none=>rw[hx]at h;cases h
  | some r1 =>
   rw[hx]at h
   refine ihx ρ lab w H fr a r1 n hB hn hx hS hF _ fun e a1 w1 hp=>?_
   obtain⟨ex,fr1,H1⟩:=r1
   obtain⟨ρ1,a1I,h1,h2,h3,h4,h5⟩:=hp
   cases ex with
   | normal =>
    simp only[Option.some.injEq]at h h5
    subst h
    cases e with
    | normal=>exact hQ _ _ _ ⟨ρ1,a1I,h1,h2,h3,h4,h5⟩
    | _=>exact h5.elim
   | ret =>
    simp only[Option.some.injEq]at h h5
    subst h
    cases e with
    | ret=>exact hQ _ _ _ ⟨ρ1,a1I,h1,h2,h3,h4,h5⟩
    | _=>exact h5.elim
   | exit i =>
    simp only at h h5
    cases e with
    | exit j =>
     obtain⟨rfl,h5⟩:=h5
     simp only[Exit.inBlock]
     cases hb:Nat.beq i id with
     | true =>
      rw[hb]at h
      simp only[Option.some.injEq]at h
      subst h
      rw[if_pos (Nat.eq_of_beq_eq_true hb)]
      exact hQ _ _ _ ⟨ρ1,a1I,h1,h2,h3,h4,h5⟩
     | false =>
      rw[hb]at h
      simp only[Option.some.injEq]at h
      subst h
      rw[if_neg (by rintro rfl;simp at hb)]
      exact hQ _ _ _ ⟨ρ1,a1I,h1,h2,h3,h4,rfl,h5⟩
    | _=>exact h5.elim
   | panic v =>
    simp only[Option.some.injEq]at h h5
    subst h
    cases e with
    | panic ch=>exact hQ _ _ _ ⟨ρ1,a1I,h1,h2,h3,h4,h5⟩
    | _=>exact h5.elim
 | loop x ihx =>
  intro ρ lab w H fr a r n hB hn h hS hF Q hQ
  simp only[a3J]at hB
  simp only[u7]at h
  split at h
  ·rename_i fr1 H1 hnm
   split at h
   ·rename_i r1 ho
    cases h
    obtain⟨ρ1,a1I,k1,k2,k3,k4⟩:=b1h hS hF.rel hnm
    have:=hL f nr x fr1 H1 _ ho ρ1 a1I w a n nt hB hn k1 ⟨k4,hF.size,hF.defers⟩
    exact wp_loop_rounds k (a8U (fun e a' w' hp=>hQ e a' w' (hp.trans k2 k3)) k a w this)
   ·cases h
  ·cases h
 | _ =>
  intro ρ lab w H fr a r n hB hn h hS hF Q hQ
  simp only[u7]at h
  cases h
end
end Go.Vm
namespace Go.Vm
section
variable {P:Program} {T:List (Nat×Ty)} {ρ ρ':Rho} {lab:Lab} {w:World} {H:Hp} {fr:Fr} {a:Act} {n nr:Nat} {env:Env} {orc:Orc}
def b3F (tmps:Array Value):ResultVar->Sem Value
 | .tmp t=>pure (tmps.getD t undef)
 | .cell a t=>do loadVar t (<-asAddr (tmps.getD a undef))
theorem resV_ok (hT:TOk P T)(hS:Sim ρ lab H w){tmps:Array Value}(hF:a1F ρ lab w fr tmps){rv:ResultVar}{v:V}(h:b2a T fr H rv=some v):∃z,(b3F tmps rv).run P w=.ok z w/\Rel ρ lab w v z:=by
 cases rv with
 | tmp t=>simp only[b2a]at h;cases h;exact⟨_,rfl,hF t⟩
 | cell c t =>
  simp only[b2a]at h
  have hx:=hF c
  obtain⟨z,h1,h2⟩:=b7t hT hS hx h
  refine⟨z,?_,h2⟩
  simp only[b3F]
  generalize hcv:tmps.getD c undef=cv at hx h1
  unfold a1Q at h
  split at h
  ·rename_i hl
   rw[hl]at hx
   cases hx
   exact h1
  ·rename_i hl
   rw[hl]at hx
   cases hx
   exact h1
  ·cases h
theorem mapM_ok (hT:TOk P T)(hS:Sim ρ lab H w){tmps:Array Value}(hF:a1F ρ lab w fr tmps):∀{l:List ResultVar} {vs:List V},Y5 (b2a T fr H) l=some vs -> ∃xs,(l.mapM (b3F tmps)).run P w=.ok xs w/\G9 ρ lab w vs xs
 | [],vs,h=>by simp only[Y5]at h;cases h;exact⟨[],rfl,b3E⟩
 | r::l,vs,h=>by
  simp only[Y5]at h
  split at h
  ·cases h
  ·rename_i v hv
   split at h
   ·cases h
   ·rename_i u hu
    cases h
    obtain⟨z,h1,h2⟩:=resV_ok hT hS hF hv
    obtain⟨xs,h3,h4⟩:=mapM_ok hT hS hF hu
    exact⟨z::xs,by simp only[List.mapM_cons,Sem.run_bind,h1,Result.andThen_ok,h3,Sem.run_pure],A9.2 ⟨z,xs,rfl,h2,h4⟩⟩
theorem b9F (hT:TOk P T)(hS:Sim ρ lab H w){tmps:Array Value}(hF:a1F ρ lab w fr tmps){fn:Func}{v:V}(h:a4f T fr H fn.results.toList=some v):∃z,(results fn tmps).run P w=.ok z w/\Rel ρ lab w v z:=by
 have hr:(results fn tmps) =(do let vs <-fn.results.mapM (b3F tmps);pure (if h:vs.size=1 then vs[0]else .tuple vs)):=by
  unfold results
  congr 1
 rw[hr]
 unfold a4f at h
 have key:∀vs,Y5 (b2a T fr H) fn.results.toList=some vs -> ∃xs,(fn.results.mapM (b3F tmps)).run P w=.ok xs.toArray w/\G9 ρ lab w vs xs:=by
  intro vs hvs
  obtain⟨xs,h1,h2⟩:=mapM_ok hT hS hF hvs
  refine⟨xs,?_,h2⟩
  rw[Array.mapM_eq_mapM_toList]
  simp only[map_eq_pure_bind,Sem.run_bind,h1,Result.andThen_ok,Sem.run_pure]
 split at h
 ·rename_i v' hvs
  cases h
  obtain⟨xs,h1,h2⟩:=key _ hvs
  obtain⟨x,xr,rfl,h3,h4⟩:=A9.1 h2
  have:xr=[]:=by have:=h4.1;simpa using this
  subst this
  exact⟨x,by simp[Sem.run_bind,h1,Result.andThen_ok],h3⟩
 ·rename_i vs hno hvs
  cases h
  obtain⟨xs,h1,h2⟩:=key _ hvs
  refine⟨.tuple xs.toArray,?_,.tuple vs xs h2.1 h2.2⟩
  have hsz:¬xs.toArray.size=1:=by
   intro hsz
   have hl:vs.length=1:=by rw[<-h2.1];simpa using hsz
   match vs,hl with
   | [v],_=>exact hno v rfl
  simp[Sem.run_bind,h1,Result.andThen_ok]
  intro h5
  exact absurd (by simpa using h5) hsz
 ·cases h
theorem b4Q:∀(args:List V) (k t:Nat),look t (a1i k args)=if k<=t then(args[t-k]?).getD .undef else .undef
 | [],k,t=>by simp[a1i,look]
 | v::r,k,t=>by
  simp only[a1i]
  by_cases hk:k=t
  ·subst hk;rw[a1K];simp
  ·rw[a0F hk,b4Q r (k+1) t]
   by_cases h:k<=t
   ·rw[if_pos (by omega),if_pos h]
    have:t-k=t-(k+1)+1:=by omega
    rw[this,List.getElem?_cons_succ]
   ·rw[if_neg (by omega),if_neg h]
structure a5e (P:Program)(g:Nat)(h:List V->Hp->Option Out):Prop where
 call:∀args H out,h args H=some out -> ∀ρ lab w xs,Canon 0 H->Sim ρ lab H w->G9 ρ lab w args xs->Calls P g xs.toArray w (a5c ρ lab H w out)
 known:∃fn c,P.funcs[g]? = some fn/\(fn.name == "runtime.NumGoroutine")=false/\fn.body=some c
structure ViaOk (P:Program)(g:Nat)(pre:List V->Hp->Option (Nat×List V×Hp))(post:List V->Hp->Out->Option Out):Prop where
 call:∀args H g' l H' o out,pre args H=some (g',l,H')->post args H o=some out -> ∀ρ lab w xs,Canon 0 H->Sim ρ lab H w->G9 ρ lab w args xs ->
  (∀ρ lab w ys,Canon 0 H'->Sim ρ lab H' w->G9 ρ lab w l ys->Calls P g' ys.toArray w (a5c ρ lab H' w o))->Calls P g xs.toArray w (a5c ρ lab H w out)
 known:∃fn c,P.funcs[g]? = some fn/\(fn.name == "runtime.NumGoroutine")=false/\fn.body=some c
structure a5d (env:Env):Prop where
 meth:a5f env
 T:TOk env.P env.T
 mixed:env.P.follows .mixedOrders=true
 code:∀g fn c,env.ok g=true->env.P.funcs[g]? = some fn->fn.body=some c->a3J env g fn.ntmps c=true/\(fn.name == "runtime.NumGoroutine")=false
 intr:∀g h,env.intr g=some (.plain h)->a5e env.P g h
 via:∀g pre post,env.intr g=some (.via pre post)->ViaOk env.P g pre post
theorem b4g (hE:a5d env) {g:Nat} {args:List V} {out:Out} (h:a18 env orc g args H=some out):∃fn c,env.P.funcs[g]? = some fn/\(fn.name == "runtime.NumGoroutine")=false/\fn.body=some c:=by
 unfold a18 at h
 split at h
 ·rename_i fn hf hok
  split at h
  ·cases h
  ·rename_i c hb
   exact⟨fn,c,hf,(hE.code g fn c hok hf hb).2,hb⟩
 ·cases h
theorem b9G (hE:a5d env) {k:Nat} (hO:a6e env.P orc) (hL:b5s env k orc) {g:Nat} {args:List V} {out:Out} {xs:List Value} (h:a18 env orc g args H = some out)
    (hc:Canon 0 H) (hS:Sim ρ lab H w) (hx:G9 ρ lab w args xs) :
    Calls env.P g xs.toArray w (a5c ρ lab H w out) /\ ∃fn c,env.P.funcs[g]? = some fn/\(fn.name == "runtime.NumGoroutine")=false/\fn.body=some c:=by
  unfold a18 at h
  split at h
  · rename_i fn hf hok
    split at h
    · cases h
    · rename_i c hb
      obtain⟨hB,hN⟩:=hE.code g fn c hok hf hb
      refine⟨calls_of_wp hf hb ?_,fn,c,hf,hN,hb⟩
      have hF:FOk ρ lab w (a1i 0 args) {tmps:=xs.toArray++Array.replicate (fn.ntmps-xs.toArray.size) undef,defers:=[]} (xs.toArray++Array.replicate (fn.ntmps-xs.toArray.size) undef).size:=by
        refine⟨fun t=>?_,rfl,rfl⟩
        rw[b4Q,if_pos (Nat.zero_le _),Nat.sub_zero]
        cases hv:args[t]? with
        | none=>exact .undef _
        | some v =>
          have hlt:t<xs.length:=by
            rw[hx.1]
            rcases Nat.lt_or_ge t args.length with h1|h1
            · exact h1
            · rw[List.getElem?_eq_none h1]at hv;cases hv
          have h2:(xs.toArray++Array.replicate (fn.ntmps-xs.toArray.size) undef).getD t undef=xs[t]:=by
            rw[Array.getD_eq_getD_getElem?,Array.getElem?_append_left (by simpa using hlt)]
            simp[hlt]
          simp only[Option.getD_some]
          rw[h2]
          exact hx.2 t v xs[t] hv (by simp[hlt])
      have hn:fn.ntmps <=(xs.toArray++Array.replicate (fn.ntmps-xs.toArray.size) undef).size:=by simp;omega
      cases hev:u7 env orc g H.length c (a1i 0 args) H with
      | none=>rw[hev]at h;cases h
      | some r =>
        rw[hev]at h
        refine c0e hE.meth hE.T hE.mixed hO hL c ρ lab w H _ _ r _ hB hn hev hS hF _ fun e a' w' hp=>?_
        obtain⟨ex,fr',H1⟩:=r
        obtain⟨ρ1,a1I,h1,h2,h3,h4,h5⟩:=hp
        have fin0:∀{a1I H1 v x v2 H2},Ext lab w a1I w'->Sim ρ1 a1I H1 w'->Rel ρ1 a1I w' v x->finish H.length v H1=some (v2,H2)->Done ρ lab H w (a1x (env.tags g) v2 H2).1 (a1x (env.tags g) v2 H2).2 x w':=by
          intro a1I H1 v x v2 H2 h2 h1 hv hfi
          obtain⟨ρ2,lab2,k1,k2,k3,k4,k5,k6⟩:=b4F h1 hv hfi
          obtain⟨ρ3,m1,m2,m3,m4,m5⟩:=c1X (b:=env.tags g) k5 k1 k4
          exact⟨ρ3,lab2,m2,h2.trans k2,(h3.trans k3 (Nat.le_refl _)).trans (a0V.of_le m1 _) (Nat.le_refl _),m3,m4,Nat.le_trans k6 m5⟩
        have fin:∀{v x v2 H2},Rel ρ1 a1I w' v x->finish H.length v H1=some (v2,H2)->Done ρ lab H w (a1x (env.tags g) v2 H2).1 (a1x (env.tags g) v2 H2).2 x w':=fun hv hfi=>fin0 h2 h1 hv hfi
        have res:∀ {out':Out},FOk ρ1 a1I w' fr' a' (xs.toArray ++ Array.replicate (fn.ntmps - xs.toArray.size) undef).size ->
            (match a4f env.T fr' H1 fn.results.toList with
              | some v=>match finish H.length (match env.tags g with|true=>b3f (env.a9C g) (a7T (env.frz g) v H1).1|false=>b3P (a7T (env.frz g) v H1).1) (a7T (env.frz g) v H1).2 with
                | some (v,H2)=>some (Out.ret (a1x (env.tags g) v H2).1 (a1x (env.tags g) v H2).2)
                | none=>none
              | none=>none)=some out' -> ∃x,(results fn a'.tmps).run env.P w'=.ok x w'/\a5c ρ lab H w out' (.returned x) w':=by
          intro out' hf' h
          split at h
          · rename_i v hv
            split at h
            · rename_i v2 H2 hfi
              cases h
              obtain⟨x,g1,g2⟩:=b9F hE.T h1 hf'.rel hv
              obtain⟨l3,q1,q2,q3⟩:=c0n (b:=env.frz g) h1 g2
              refine⟨x,g1,fin0 (h2.trans q1) q2 ?_ hfi⟩
              split
              · exact q3.b3f
              · exact q3.b3P
            · cases h
          · cases h
        cases ex with
        | normal =>
          cases e with
          | normal=>exact⟨h4,res h5 h⟩
          | _=>exact h5.elim
        | ret =>
          cases e with
          | ret=>exact⟨h4,res h5 h⟩
          | _=>exact h5.elim
        | exit i=>cases h
        | panic v =>
          cases e with
          | panic ch =>
            obtain⟨x,rfl,hx'⟩:=h5
            simp only at h
            split at h
            · rename_i v2 H2 hfi
              cases h
              exact⟨h4,x,rfl,fin hx' hfi⟩
            · cases h
          | _=>exact h5.elim
  · cases h
theorem b9H (hE:a5d env){k:Nat}(hO:a6e env.P orc)(hL:b5s env k orc){f nr nt:Nat}{body:Code}{r:Res}(h:a4g env orc f nr body fr H=some (.res r))(hB:a3J env f nt body=true)(hn:nt<=n)
  (hS:Sim ρ lab H w) (hF:FOk ρ lab w fr a n):Code.rounds env.P body (Post nr n ρ lab w r) (k+1) a w:=by
 rw[rounds_succ]
 unfold a4g at h
 cases hev:u7 env orc f nr body fr H with
 | none=>rw[hev]at h;cases h
 | some r1 =>
  rw[hev]at h
  refine c0e hE.meth hE.T hE.mixed hO hL body ρ lab w H fr a r1 n hB hn hev hS hF _ fun e a' w' hp=>?_
  obtain⟨ex,fr',H1⟩:=r1
  have hp':=hp
  obtain⟨ρ1,a1I,h1,h2,h3,h4,h5⟩:=hp
  cases ex with
  | normal =>
   simp only at h
   cases e with
   | normal =>
    split at h
    ·rename_i fr2 H2 hnm
     obtain⟨ρ2,lab2,k1,k2,k3,k4⟩:=b1h h1 h5.rel hnm
     have h6:FOk ρ2 lab2 w' fr2 a' n:=⟨k4,h5.size,h4⟩
     exact a8U (fun e a w hp=>(hp.trans k2 k3).trans h2 h3) k a' w' (hL f nr body fr2 H2 r h ρ2 lab2 w' a' n nt hB hn k1 h6)
    ·cases h
   | _=>exact h5.elim
  | ret =>
   cases h
   cases e with
   | ret=>exact hp'
   | _=>exact h5.elim
  | exit i =>
   cases h
   cases e with
   | exit j=>exact hp'
   | _=>exact h5.elim
  | panic v =>
   cases h
   cases e with
   | panic ch=>exact hp'
   | _=>exact h5.elim
theorem b3K (hE:a5d env):∀k,a6e env.P (run env k)/\b5s env k (run env k)
 | 0=>⟨⟨fun g args H out h=>(by cases h),fun g args H out h=>(by cases h)⟩,fun f nr body fr H r h=>(by cases h)⟩
 | k+1=>by
  obtain⟨hO,hL⟩:=b3K hE k
  refine⟨⟨fun g args H out h ρ lab w xs hc hS hx=>?_,fun g args H out h=>?_⟩,fun f nr body fr H r h ρ lab w a n nt hB hn hS hF=>b9H hE hO hL h hB hn hS hF⟩
  ·simp only[run,step]at h
   split at h
   ·rename_i hh hi
    exact(hE.intr g hh hi).call args H out h ρ lab w xs hc hS hx
   ·rename_i pre post hi
    split at h
    ·rename_i g' l H' hp
     split at h
     ·rename_i o ho
      exact(hE.via g pre post hi).call args H g' l H' o out hp h ρ lab w xs hc hS hx (fun ρ lab w ys hc2 hS2 hy=>hO.call g' l H' o ho ρ lab w ys hc2 hS2 hy)
     ·cases h
    ·cases h
   ·exact(b9G hE hO hL h hc hS hx).1
  ·simp only[run,step]at h
   split at h
   ·rename_i hh hi
    exact(hE.intr g hh hi).known
   ·rename_i pre post hi
    exact(hE.via g pre post hi).known
   ·exact b4g hE h
end
end Go.Vm
namespace Go.Vm
section
variable {env:Env} {orc orc':Orc}
def OLe (a b:Orc):Prop:=∀t H o,a t H=some o->b t H=some o
structure Chain (c:Nat->Orc)(e:Orc):Prop where
 le:∀k,OLe (c k) e
 up:∀k,OLe (c k) (c (k+1))
 at_:∀t H o,e t H=some o -> ∃k,c k t H=some o
theorem Chain.mono {c:Nat->Orc}{e:Orc}(h:Chain c e):∀{j k:Nat},j<=k->OLe (c j) (c k):=by
 intro j k hjk
 induction hjk with
 | refl=>exact fun _ _ _ h=>h
 | step _ ih=>exact fun t H o ho=>h.up _ t H o (ih t H o ho)
theorem a9P (h:OLe orc orc'){g:Nat}{args:List V}{H:Hp}{r:OpR}(hr:a0D orc g args H=some r):a0D orc' g args H=some r:=by
 unfold a0D at hr ⊢
 split at hr
 ·cases hr
 ·split at hr
  ·rename_i ho
   rw[h _ _ _ ho]
   exact hr
  ·cases hr
theorem a4I (h:OLe orc orc'){k g:Nat}{args:List V}{H:Hp}{r:OpR}(hr:M9 env orc k g args H=some r):M9 env orc' k g args H=some r:=by
 unfold M9 at hr ⊢
 split at hr
 ·rename_i hq
  exact a9P h hr
 ·simp only at hr ⊢
  split at hr
  ·split at hr
   ·rename_i ho
    rw[h _ _ _ ho]
    exact hr
   ·rename_i ho
    rw[h _ _ _ ho]
    exact hr
   ·cases hr
  ·cases hr
theorem b8H (h:OLe orc orc'){k g:Nat}{args:List V}{H:Hp}{r:OpR}(hr:a0W env orc k g args H=some r):a0W env orc' k g args H=some r:=by
 unfold a0W at hr ⊢
 split at hr
 ·exact a9P h hr
 ·split at hr
  ·exact a4I h hr
  ·split at hr
   ·rename_i ho
    rw[a4I h ho]
    exact hr
   ·cases hr
theorem b9q (h:OLe orc orc'){fr:Fr}{H:Hp}{o:Oper}{r:OpR}(hr:M4 env orc fr H o=some r):M4 env orc' fr H o=some r:=by
  unfold M4 at hr ⊢
  split at hr<;>first
    | exact hr
    | (split at hr
       · first
         | exact b8H h hr
         | exact a4I h hr
         | (split at hr
            · exact a4I h hr
            · cases hr)
       · cases hr)
theorem a5W (h:OLe orc orc'){fr:Fr}{H:Hp}{o:Oper}{r:OpR}(hr:J6 env orc fr H o=some r):J6 env orc' fr H o=some r:=by
 unfold J6 at hr ⊢
 split at hr
 ·exact hr
 ·exact b9q h hr
theorem a2n (h:OLe orc orc'){ops:Array Oper}:∀{l:List Oper} {fr:Fr} {H:Hp} {r:Res},H7 env orc ops l fr H=some r->H7 env orc' ops l fr H=some r
 | [],fr,H,r,hr=>hr
 | o::l,fr,H,r,hr=>by
  simp only[H7]at hr ⊢
  cases hw:u6 ops o fr with
  | none=>rw[hw]at hr;cases hr
  | some b =>
   rw[hw]at hr
   cases b with
   | false=>exact a2n h hr
   | true =>
    simp only at hr ⊢
    cases ho:J6 env orc fr H o with
    | none=>rw[ho]at hr;cases hr
    | some x =>
     rw[ho]at hr
     rw[a5W h ho]
     cases x with
     | val v H1=>exact a2n h hr
     | pan v H1=>exact hr
theorem a2D (h:OLe orc orc'){L sl:List Nat}{ops:Array Oper}:∀{l:List Oper} {fr:Fr} {H:Hp} {r:Res},I5 env orc L sl ops l fr H=some r->I5 env orc' L sl ops l fr H=some r
 | [],fr,H,r,hr=>hr
 | o::l,fr,H,r,hr=>by
  simp only[I5]at hr ⊢
  cases hw:u6 ops o fr with
  | none=>rw[hw]at hr;cases hr
  | some b =>
   rw[hw]at hr
   cases b with
   | false=>exact a2D h hr
   | true =>
    simp only at hr ⊢
    cases hp:a1t env L sl fr H o with
    | false=>rw[hp]at hr;cases hr
    | true =>
    rw[hp]at hr
    simp only at hr ⊢
    cases ho:J6 env orc fr H o with
    | none=>rw[ho]at hr;cases hr
    | some x =>
     rw[ho]at hr
     rw[a5W h ho]
     cases x with
     | val v H1=>exact a2D h hr
     | pan v H1=>exact hr
theorem b5I (h:OLe orc orc'){nr:Nat}{S sl:List Nat}{ops:Array Oper}{fr:Fr}{H:Hp}{r:Res}(hr:a2O env orc nr ops S sl fr H=some r):a2O env orc' nr ops S sl fr H=some r:=by
 unfold a2O at hr ⊢
 split at hr
 ·cases hr
 ·rename_i ho
  rw[a2n h ho]
  simp only
  split at hr
  ·cases hr
  ·cases hq:I5 env orc _ sl ops (a4C ops S) fr H with
   | none=>rw[hq]at hr;cases hr
   | some x=>rw[hq]at hr;rw[a2D h hq];exact hr
theorem a2C (h:OLe orc orc'){f nr:Nat}:∀{c:Code} {fr:Fr} {H:Hp} {r:Res},u7 env orc f nr c fr H=some r->u7 env orc' f nr c fr H=some r:=by
 intro c
 induction c with
 | region id ops d =>
  intro fr H r hr
  simp only[u7]at hr ⊢
  split at hr
  ·exact b5I h hr
  ·cases ho:H7 env orc ops ops.toList fr H with
   | none =>
    rw[ho]at hr
    cases hd:(d&&env.loose f)<;>rw[hd]at hr<;>cases hr
   | some x=>rw[ho]at hr;rw[a2n h ho];exact hr
 | seq a b iha ihb =>
  intro fr H r hr
  simp only[u7]at hr ⊢
  cases ho:u7 env orc f nr a fr H with
  | none=>rw[ho]at hr;cases hr
  | some x =>
   rw[ho]at hr;rw[iha ho]
   obtain⟨e,fr1,H1⟩:=x
   cases e with
   | normal =>
    simp only at hr ⊢
    split at hr
    ·exact ihb hr
    ·cases hr
   | _=>exact hr
 | cond c a b iha ihb =>
  intro fr H r hr
  simp only[u7]at hr ⊢
  split at hr
  ·split at hr
   ·exact iha hr
   ·exact ihb hr
  ·cases hr
 | block id a iha =>
  intro fr H r hr
  simp only[u7]at hr ⊢
  cases ho:u7 env orc f nr a fr H with
  | none=>rw[ho]at hr;cases hr
  | some x=>rw[ho]at hr;rw[iha ho];exact hr
 | loop a iha =>
  intro fr H r hr
  simp only[u7]at hr ⊢
  split at hr
  ·split at hr
   ·rename_i ho
    rw[h _ _ _ ho]
    exact hr
   ·cases hr
  ·cases hr
 | _=>exact fun hr=>hr
theorem c1V (h:OLe orc orc'):OLe (step env orc) (step env orc'):=by
 intro t H o hr
 cases t with
 | call g args =>
  simp only[step]at hr ⊢
  split at hr
  ·exact hr
  ·split at hr
   ·rename_i hp
    split at hr
    ·rename_i ho
     rw[h _ _ _ ho]
     exact hr
    ·cases hr
   ·cases hr
  ·unfold a18 at hr ⊢
   split at hr
   ·split at hr
    ·cases hr
    ·rename_i hb
     try simp only
     cases ho:u7 env orc g H.length _ (a1i 0 args) H with
     | none=>rw[ho]at hr;cases hr
     | some x=>rw[ho]at hr;rw[a2C h ho];exact hr
   ·cases hr
 | loop f nr body fr =>
  simp only[step,a4g]at hr ⊢
  cases ho:u7 env orc f nr body fr H with
  | none=>rw[ho]at hr;cases hr
  | some x =>
   rw[ho]at hr;rw[a2C h ho]
   obtain⟨e,fr1,H1⟩:=x
   cases e with
   | normal =>
    simp only at hr ⊢
    split at hr
    ·exact h _ _ _ hr
    ·cases hr
   | _=>exact hr
theorem run_up (env:Env):∀k,OLe (run env k) (run env (k+1))
 | 0=>fun t H o h=>by cases h
 | k+1=>c1V (run_up env k)
open Classical in
noncomputable def E (env:Env):Orc:=fun t H=>if h:∃k o,run env k t H=some o then some (Classical.choose (Classical.choose_spec h))else none
theorem a0M (env:Env):Chain (run env) (E env):=by
 have up:=run_up env
 have mono:∀{j k:Nat},j<=k->OLe (run env j) (run env k):=by
  intro j k hjk
  induction hjk with
  | refl=>exact fun _ _ _ h=>h
  | step _ ih=>exact fun t H o ho=>up _ t H o (ih t H o ho)
 have fn:∀{j k t H o o'},run env j t H=some o->run env k t H=some o'->o=o':=by
  intro j k t H o o' h1 h2
  have h3:=mono (Nat.le_max_left j k) t H o h1
  have h4:=mono (Nat.le_max_right j k) t H o' h2
  rw[h3]at h4;cases h4;rfl
 refine⟨fun k t H o h=>?_,up,fun t H o h=>?_⟩
 ·have hex:∃k o,run env k t H=some o:=⟨k,o,h⟩
  unfold E
  rw[dif_pos hex]
  have:=Classical.choose_spec (Classical.choose_spec hex)
  rw[fn this h]
 ·unfold E at h
  split at h
  ·rename_i hex
   cases h
   exact⟨_,Classical.choose_spec (Classical.choose_spec hex)⟩
  ·cases h
section
variable {c:Nat->Orc} {e:Orc}
theorem a9O (h:Chain c e){g:Nat}{args:List V}{H:Hp}{r:OpR}(hr:a0D e g args H=some r):∃k,a0D (c k) g args H=some r:=by
 unfold a0D at hr ⊢
 split at hr
 ·cases hr
 ·split at hr
  ·rename_i ho
   obtain⟨k,hk⟩:=h.at_ _ _ _ ho
   exact⟨k,by rw[hk];exact hr⟩
  ·cases hr
theorem a4H (h:Chain c e){m g:Nat}{args:List V}{H:Hp}{r:OpR}(hr:M9 env e m g args H=some r):∃k,M9 env (c k) m g args H=some r:=by
 unfold M9 at hr ⊢
 split at hr
 ·rename_i hq
  try simp only[hq]
  exact a9O h hr
 ·rename_i hq
  simp only[hq]at hr ⊢
  split at hr
  ·split at hr
   ·rename_i ho
    obtain⟨k,hk⟩:=h.at_ _ _ _ ho
    exact⟨k,by rw[hk];exact hr⟩
   ·rename_i ho
    obtain⟨k,hk⟩:=h.at_ _ _ _ ho
    exact⟨k,by rw[hk];exact hr⟩
   ·cases hr
  ·cases hr
theorem b8F (h:Chain c e){m g:Nat}{args:List V}{H:Hp}{r:OpR}(hr:a0W env e m g args H=some r):∃k,a0W env (c k) m g args H=some r:=by
 cases hq:env.quiet g with
 | true =>
  simp only[a0W,hq]at hr ⊢
  exact a9O h hr
 | false=>cases hl:env.look g with
  | false =>
   simp only[a0W,hq,hl]at hr ⊢
   exact a4H h hr
  | true =>
   simp only[a0W,hq,hl]at hr ⊢
   cases ho:M9 env e m g args H with
   | none=>rw[ho]at hr;cases hr
   | some r0 =>
    rw[ho]at hr
    obtain⟨k,hk⟩:=a4H h ho
    exact⟨k,by rw[hk];exact hr⟩
theorem b9p (h:Chain c e){fr:Fr}{H:Hp}{o:Oper}{r:OpR}(hr:M4 env e fr H o=some r):∃k,M4 env (c k) fr H o=some r:=by
  unfold M4 at hr ⊢
  split at hr<;>first
    | exact⟨0,hr⟩
    | (split at hr
       · first
         | exact b8F h hr
         | exact a4H h hr
         | (split at hr
            · exact a4H h hr
            · cases hr)
       · cases hr)
theorem b1M (h:Chain c e){fr:Fr}{H:Hp}{o:Oper}{r:OpR}(hr:J6 env e fr H o=some r):∃k,J6 env (c k) fr H o=some r:=by
 unfold J6 at hr ⊢
 split at hr
 ·exact⟨0,hr⟩
 ·exact b9p h hr
theorem a4M (h:Chain c e){ops:Array Oper}:∀{l:List Oper} {fr:Fr} {H:Hp} {r:Res},H7 env e ops l fr H=some r -> ∃k,H7 env (c k) ops l fr H=some r
 | [],fr,H,r,hr=>⟨0,hr⟩
 | o::l,fr,H,r,hr=>by
  simp only[H7]at hr ⊢
  cases hw:u6 ops o fr with
  | none=>rw[hw]at hr;cases hr
  | some b =>
   rw[hw]at hr
   cases b with
   | false=>exact a4M h hr
   | true =>
    simp only at hr ⊢
    cases ho:J6 env e fr H o with
    | none=>rw[ho]at hr;cases hr
    | some x =>
     rw[ho]at hr
     obtain⟨k,hk⟩:=b1M h ho
     cases x with
     | val v H1 =>
      obtain⟨j,hj⟩:=a4M h hr
      refine⟨max k j,?_⟩
      rw[a5W (h.mono (Nat.le_max_left k j)) hk]
      exact a2n (h.mono (Nat.le_max_right k j)) hj
     | pan v H1=>exact⟨k,by rw[hk];exact hr⟩
theorem a6h (h:Chain c e){L sl:List Nat}{ops:Array Oper}:∀{l:List Oper} {fr:Fr} {H:Hp} {r:Res},I5 env e L sl ops l fr H=some r -> ∃k,I5 env (c k) L sl ops l fr H=some r
 | [],fr,H,r,hr=>⟨0,hr⟩
 | o::l,fr,H,r,hr=>by
  simp only[I5]at hr ⊢
  cases hw:u6 ops o fr with
  | none=>rw[hw]at hr;cases hr
  | some b =>
   rw[hw]at hr
   cases b with
   | false=>exact a6h h hr
   | true =>
    simp only at hr ⊢
    cases hp:a1t env L sl fr H o with
    | false=>rw[hp]at hr;cases hr
    | true =>
    rw[hp]at hr
    simp only at hr ⊢
    cases ho:J6 env e fr H o with
    | none=>rw[ho]at hr;cases hr
    | some x =>
     rw[ho]at hr
     obtain⟨k,hk⟩:=b1M h ho
     cases x with
     | val v H1 =>
      obtain⟨j,hj⟩:=a6h h hr
      refine⟨max k j,?_⟩
      rw[a5W (h.mono (Nat.le_max_left k j)) hk]
      exact a2D (h.mono (Nat.le_max_right k j)) hj
     | pan v H1=>exact⟨k,by rw[hk];exact hr⟩
theorem b5H (h:Chain c e){nr:Nat}{S sl:List Nat}{ops:Array Oper}{fr:Fr}{H:Hp}{r:Res}(hr:a2O env e nr ops S sl fr H=some r):∃k,a2O env (c k) nr ops S sl fr H=some r:=by
 unfold a2O at hr
 split at hr
 ·cases hr
 ·rename_i ho
  obtain⟨k,hk⟩:=a4M h ho
  split at hr
  ·cases hr
  ·rename_i hL
   cases hq:I5 env e _ sl ops (a4C ops S) fr H with
   | none=>rw[hq]at hr;cases hr
   | some x =>
    rw[hq]at hr
    obtain⟨j,hj⟩:=a6h h hq
    refine⟨max k j,?_⟩
    unfold a2O
    rw[a2n (h.mono (Nat.le_max_left k j)) hk]
    simp only[hL]
    rw[a2D (h.mono (Nat.le_max_right k j)) hj]
    exact hr
theorem a9K (h:Chain c e){f nr:Nat}:∀{d:Code} {fr:Fr} {H:Hp} {r:Res},u7 env e f nr d fr H=some r -> ∃k,u7 env (c k) f nr d fr H=some r:=by
 intro d
 induction d with
 | region id ops d =>
  intro fr H r hr
  simp only[u7]at hr ⊢
  split at hr
  ·exact b5H h hr
  ·cases ho:H7 env e ops ops.toList fr H with
   | none =>
    rw[ho]at hr
    cases hd:(d&&env.loose f)<;>rw[hd]at hr<;>cases hr
   | some x=>rw[ho]at hr;obtain⟨k,hk⟩:=a4M h ho;exact⟨k,by rw[hk];exact hr⟩
 | seq a b iha ihb =>
  intro fr H r hr
  simp only[u7]at hr ⊢
  cases ho:u7 env e f nr a fr H with
  | none=>rw[ho]at hr;cases hr
  | some x =>
   rw[ho]at hr
   obtain⟨k,hk⟩:=iha ho
   obtain⟨ex,fr1,H1⟩:=x
   cases ex with
   | normal =>
    simp only at hr ⊢
    split at hr
    ·rename_i hcu
     obtain⟨j,hj⟩:=ihb hr
     refine⟨max k j,?_⟩
     rw[a2C (h.mono (Nat.le_max_left k j)) hk]
     simp only[hcu]
     exact a2C (h.mono (Nat.le_max_right k j)) hj
    ·cases hr
   | _=>exact⟨k,by rw[hk];exact hr⟩
 | cond c a b iha ihb =>
  intro fr H r hr
  simp only[u7]at hr ⊢
  cases hc:ev fr c with
  | none=>rw[hc]at hr;cases hr
  | some v =>
   rw[hc]at hr
   cases v with
   | bool t=>cases t with
    | true=>exact iha hr
    | false=>exact ihb hr
   | _=>cases hr
 | block id a iha =>
  intro fr H r hr
  simp only[u7]at hr ⊢
  cases ho:u7 env e f nr a fr H with
  | none=>rw[ho]at hr;cases hr
  | some x=>rw[ho]at hr;obtain⟨k,hk⟩:=iha ho;exact⟨k,by rw[hk];exact hr⟩
 | loop a iha =>
  intro fr H r hr
  simp only[u7]at hr ⊢
  cases hn:normal env f nr (a0h a) fr H with
  | none=>rw[hn]at hr;cases hr
  | some x =>
   rw[hn]at hr
   simp only at hr ⊢
   split at hr
   ·rename_i ho
    obtain⟨k,hk⟩:=h.at_ _ _ _ ho
    exact⟨k,by rw[hk];exact hr⟩
   ·cases hr
 | _=>intro fr H r hr;first|exact⟨0,hr⟩|cases hr
theorem c1U (h:Chain c e){t:Task}{H:Hp}{o:Out}(hr:step env e t H=some o):∃k,step env (c k) t H=some o:=by
 cases t with
 | call g args =>
  simp only[step]at hr ⊢
  cases hi:env.intr g with
  | some f =>
   rw[hi]at hr
   cases f with
   | plain f=>exact⟨0,hr⟩
   | via pre post =>
    simp only at hr ⊢
    split at hr
    ·rename_i hp
     split at hr
     ·rename_i ho
      obtain⟨k,hk⟩:=h.at_ _ _ _ ho
      exact⟨k,by rw[hk];exact hr⟩
     ·cases hr
    ·cases hr
  | none =>
   rw[hi]at hr
   simp only at hr ⊢
   unfold a18 at hr ⊢
   split at hr
   ·rename_i fn hf hok
    split at hr
    ·cases hr
    ·rename_i d hb
     try simp only[hb]
     cases ho:u7 env e g H.length d (a1i 0 args) H with
     | none=>rw[ho]at hr;cases hr
     | some x =>
      rw[ho]at hr
      obtain⟨k,hk⟩:=a9K h ho
      exact⟨k,by rw[hk];exact hr⟩
   ·cases hr
 | loop f nr body fr =>
  simp only[step,a4g]at hr ⊢
  cases ho:u7 env e f nr body fr H with
  | none=>rw[ho]at hr;cases hr
  | some x =>
   rw[ho]at hr
   obtain⟨k,hk⟩:=a9K h ho
   obtain⟨ex,fr1,H1⟩:=x
   cases ex with
   | normal =>
    simp only at hr ⊢
    cases hn:normal env f nr (a0h body) fr1 H1 with
    | none=>rw[hn]at hr;cases hr
    | some y =>
     rw[hn]at hr
     simp only at hr
     obtain⟨j,hj⟩:=h.at_ _ _ _ hr
     refine⟨max k j,?_⟩
     rw[a2C (h.mono (Nat.le_max_left k j)) hk]
     simp only[hn]
     exact h.mono (Nat.le_max_right k j) _ _ _ hj
   | _=>exact⟨k,by rw[hk];exact hr⟩
end
theorem b5r {t:Task}{H:Hp}{o:Out}(h:step env (E env) t H=some o):E env t H=some o:=by
 obtain⟨k,hk⟩:=c1U (a0M env) h
 exact(a0M env).le (k+1) t H o hk
theorem E_call {g:Nat}{args:List V}{H:Hp}{o:Out}(hi:env.intr g=none)(h:a18 env (E env) g args H=some o):E env (.call g args) H=some o :=
 b5r (by simp only[step,hi];exact h)
theorem b5q {f nr:Nat}{body:Code}{fr:Fr}{H:Hp}{o:Out}(h:a4g env (E env) f nr body fr H=some o):E env (.loop f nr body fr) H=some o:=b5r h
theorem b8I (hE:a5d env){g:Nat}{args:List V}{v:V}{xs:List Value}{w:World}(hkp:KpW w)(h:E env (.call g args) []=some (.ret v []))(hx:G9 ⟨fun _=>none,fun _ _=>none⟩ (fun _ _=>none) w args xs) :
  Calls env.P g xs.toArray w fun e w'=>∃x ρ lab,e=.returned x/\Rel ρ lab w' v x/\RowKit.Below w.heap.size w w':=by
 obtain⟨k,hk⟩:=(a0M env).at_ _ _ _ h
 refine((b3K hE k).1.call g args [] _ hk ⟨fun _=>none,fun _ _=>none⟩ (fun _ _=>none) w xs trivial ?_ hx).mono fun e w' he=>?_
 ·exact⟨Kp.none hkp,fun k cs h=>(by cases h),fun k e cs h=>(by cases h),fun k e n h=>(by cases h),fun k es h=>(by cases h),fun k n x h=>(by cases h),fun k x h=>(by cases h),fun b o k h=>(by cases h)⟩
 ·cases e with
  | returned x =>
   obtain⟨ρ',lab',h1,h2,h3,h4,h5⟩:=he
   exact⟨x,ρ',lab',rfl,h4,⟨h2.os,h2.tape,h2.output,h2.size,fun b hb=>h2.blk b hb (fun o k h=>by cases h)⟩⟩
  | panicked ch=>exact he.elim
  | outgrown=>exact he.elim
theorem b8J (hE:a5d env){g:Nat}{args:List V}{xs:List Value}{w:World}(hkp:KpW w)(h:E env (.call g args) []=some (.ret (.bool true) []))(hx:G9 ⟨fun _=>none,fun _ _=>none⟩ (fun _ _=>none) w args xs) :
  Calls env.P g xs.toArray w fun e w'=>e=.returned (.bool true)/\RowKit.Below w.heap.size w w' :=
 (b8I hE hkp h hx).mono fun e w' ⟨x,ρ,lab,h1,h2,h3⟩=>by cases h2;exact⟨h1,h3⟩
end
end Go.Vm
namespace Go.Vm
section
variable {env:Env} {orc:Orc} {f nr:Nat} {ops:Array Oper} {o:Oper} {rest:List Oper} {fr fr1:Fr} {H H1:Hp} {r:Option Res} {v:V} {K:Res->Prop}
theorem a0Q {g:Nat}{args:Array Operand}{at_:Array TypeId}{l l2:List V}{v v2:V}(hw:u6 ops o fr=some true)(ho:o.op=.call ⟨.value (.func g),args,at_⟩)(hq:env.quiet g=true)
  (hl:evL fr args.toList=some l) (hr:Y5 (a0e a2g dep) (l.map a6b)=some l2) (hc:orc (.call g l2) []=some (.ret v [])) (hv:a0e a2g dep v=some v2)
  (h:Os env orc ops rest (M5 o.dst v2 fr) H K):Os env orc ops (o::rest) fr H K:=by
 have hp:J4 o.op=false:=by rw[ho];rfl
 refine a0y hw hp (v:=v2) (H1:=H) ?_ h
 unfold M4
 rw[ho]
 simp only[ev,hl,List.nil_append,List.append_nil,a0W,hq,a0D,hr,hc,hv]
theorem b4Y {g:Nat}{f:Operand}{args:Array Operand}{at_:Array TypeId}{l l2:List V}{v v2:V}(hw:u6 ops o fr=some true)(ho:o.op=.call ⟨.value f,args,at_⟩)(hf:ev fr f=some (.func (.func g) [] []))
  (hq:env.quiet g=true) (hl:evL fr args.toList=some l) (hr:Y5 (a0e a2g dep) (l.map a6b)=some l2) (hc:orc (.call g l2) []=some (.ret v [])) (hv:a0e a2g dep v=some v2)
  (h:Os env orc ops rest (M5 o.dst v2 fr) H K):Os env orc ops (o::rest) fr H K:=by
 have hp:J4 o.op=false:=by rw[ho];rfl
 refine a0y hw hp (v:=v2) (H1:=H) ?_ h
 unfold M4
 rw[ho]
 simp only[hf,hl,List.nil_append,List.append_nil,a0W,hq,a0D,hr,hc,hv]
theorem a9i {g:Nat}{args:Array Operand}{at_:Array TypeId}{l:List V}{v:V}(hw:u6 ops o fr=some true)(ho:o.op=.call ⟨.value (.func g),args,at_⟩)
  (hl:evL fr args.toList=some l) (hc:a0W env orc (newName o) g l H=some (.val v H1))
  (h:Os env orc ops rest (M5 o.dst v fr) H1 K):Os env orc ops (o::rest) fr H K:=by
 have hp:J4 o.op=false:=by rw[ho];rfl
 refine a0y hw hp (v:=v) (H1:=H1) ?_ h
 unfold M4
 rw[ho]
 simp only[ev,hl,List.nil_append,List.append_nil,hc]
def a4F (env:Env)(g:Nat)(args:List V)(H:Hp):Option (List Nat×List V×Hp) :=
 fL (a0Y (env.argTags g) (env.a4x g) args) fun b2C =>
 fN (reach H 99 (b2C.flatMap (Y3 dep)) []) fun ns =>
 match Y5 (a0e (idx · ns) dep) b2C,a3k H (idx · ns) ns 0 with
 | some M8,some H2=>fL M8 fun M8=>fH H2 fun H2 =>
  fL (a1E (env.argTags g) M8 ns.length).1 fun a1 =>
  fH ((L9 H2 (a1E (env.argTags g) M8 ns.length).2).1++a9D ns.length ((L9 H2 (a1E (env.argTags g) M8 ns.length).2).2-ns.length)) fun Hb =>
  fL (a8y env.full a1 Hb).1 fun ac=>fH (a8y env.full a1 Hb).2 fun Hc=>some (ns,ac,Hc)
 | _,_=>none
theorem a4G {g:Nat}{args ac:List V}{ns:List Nat}{Hc:Hp}(h:a4F env g args H=some (ns,ac,Hc)):∃M8 H2,reach H 99 ((a0Y (env.argTags g) (env.a4x g) args).flatMap (Y3 dep)) []=ns /\
  Y5 (a0e (idx · ns) dep) (a0Y (env.argTags g) (env.a4x g) args)=some M8/\a3k H (idx · ns) ns 0=some H2 /\
  a8y env.full (a1E (env.argTags g) M8 ns.length).1 ((L9 H2 (a1E (env.argTags g) M8 ns.length).2).1++a9D ns.length ((L9 H2 (a1E (env.argTags g) M8 ns.length).2).2-ns.length)) =(ac,Hc):=by
 unfold a4F at h
 simp only[b7b,b4A,a7P]at h
 generalize hns:reach H 99 ((a0Y (env.argTags g) (env.a4x g) args).flatMap (Y3 dep)) []=ns' at h
 split at h
 ·rename_i M8 H2 h1 h2
  simp only[Option.some.injEq,Prod.mk.injEq]at h
  obtain⟨rfl,h3,h4⟩:=h
  exact⟨M8,H2,rfl,h1,h2,Prod.ext h3 h4⟩
 ·cases h
theorem a2Z {k g:Nat}{args ac:List V}{ns:List Nat}{H3 H4 Hc:Hp}{v v4:V}(hq:(env.quiet g||env.look g)=false)(hp:a4F env g args H=some (ns,ac,Hc))(hc:orc (.call g ac) Hc=some (.ret v H3))(h7:a3a (a0e (H6 ns k) dep v)=some v4)
  (h8:O7 (a0i (H6 ns k) H3 H)=some H4) (h9:a1S H H3 k ns.length=true):a0W env orc k g args H=some (.val v4 H4):=by
 obtain⟨hq,hlk⟩:=Bool.or_eq_false_iff.1 hq
 rw[a0E]at h8
 rw[a6F]at h7
 obtain⟨M8,H2,h1,h2,h3,h4⟩:=a4G hp
 simp only[a0W,hlk,M9,hq,h1,h2,h3,h4,hc,h7,h8,h9]
theorem b6T {k g:Nat}{args ac:List V}{ns:List Nat}{H3 H4 Hc:Hp}{v v4:V}(hq:(env.quiet g||env.look g)=false)(hp:a4F env g args H=some (ns,ac,Hc))(hc:orc (.call g ac) Hc=some (.pan v H3))(h7:a3a (a0e (H6 ns k) dep v)=some v4)
  (h8:O7 (a0i (H6 ns k) H3 H)=some H4) (h9:a1S H H3 k ns.length=true):a0W env orc k g args H=some (.pan v4 H4):=by
 obtain⟨hq,hlk⟩:=Bool.or_eq_false_iff.1 hq
 rw[a0E]at h8
 rw[a6F]at h7
 obtain⟨M8,H2,h1,h2,h3,h4⟩:=a4G hp
 simp only[a0W,hlk,M9,hq,h1,h2,h3,h4,hc,h7,h8,h9]
theorem b5x {k g:Nat}{args ac:List V}{ns:List Nat}{H3 Hc:Hp}{v v4:V}(hq:env.quiet g=false)(hlk:env.look g=true)(hp:a4F env g args H=some (ns,ac,Hc))(hc:orc (.call g ac) Hc=some (.ret v H3))(h7:a3a (a0e (H6 ns k) dep v)=some v4)
  (h8:O7 (a0i (H6 ns k) H3 H)=some H) (h9:a1S H H3 k ns.length=true):a0W env orc k g args H=some (.val v4 H):=by
 rw[a0E]at h8
 rw[a6F]at h7
 obtain⟨M8,H2,h1,h2,h3,h4⟩:=a4G hp
 simp only[a0W,hlk,M9,hq,h1,h2,h3,h4,hc,h7,h8,h9,b7v,b9I]
theorem O4 {j d:Nat}{w c:Bool}{fr':Fr}(hg:o.guard=some (j,w))(hd:(ops[j]?).bind (·.dst)=some d)(hf:fr =(d,.bool c)::fr')
  (h1:c=true->Os env orc ops (o::rest) ((d,.bool true)::fr') H K) (h2:c=false->Os env orc ops (o::rest) ((d,.bool false)::fr') H K):Os env orc ops (o::rest) fr H K:=by
 subst hf
 cases c with
 | true=>exact h1 rfl
 | false=>exact h2 rfl
theorem O1 {c:Operand}{a b:Code}{t:Bool}(hc:ev fr c=some (.bool t))(h1:t=true->Ev env orc f nr a fr H K)(h2:t=false->Ev env orc f nr b fr H K):Ev env orc f nr (.cond c a b) fr H K:=by
 cases t with
 | true=>exact N7 hc rfl (h1 rfl)
 | false=>exact R4 hc rfl (h2 rfl)
theorem wrap64 {x:Int}(h1:-9223372036854775808<=x)(h2:x<9223372036854775808):IntKind.wrap .i64 x=x:=by
 simp only[IntKind.wrap,IntKind.bits,IntKind.signed];simp;split<;>omega
theorem addN {i k:Nat}(h:i+k<9223372036854775808):a1G (some (.int .i64 (IntKind.wrap .i64 ((i:Int)+(k:Int)))))=some (.int .i64 ((i+k:Nat):Int)):=by
 rw[wrap64 (by omega) (by omega)];simp[a1G,fV]
theorem subN {i k:Nat}(h:k<=i)(hi:i<9223372036854775808):a1G (some (.int .i64 (IntKind.wrap .i64 ((i:Int)-(k:Int)))))=some (.int .i64 ((i-k:Nat):Int)):=by
 rw[wrap64 (by omega) (by omega)];simp only[a1G,fV];congr 2;omega
theorem add1 {i:Nat}(h:i<9223372036854775807):a1G (some (.int .i64 (IntKind.wrap .i64 ((i:Int)+1))))=some (.int .i64 ((i+1:Nat):Int)):=addN (k:=1) (by omega)
theorem add2 {i:Nat}(h:i<9223372036854775806):a1G (some (.int .i64 (IntKind.wrap .i64 ((i:Int)+2))))=some (.int .i64 ((i+2:Nat):Int)):=addN (k:=2) (by omega)
theorem sub1 {i:Nat}(h:1<=i)(hi:i<9223372036854775808):a1G (some (.int .i64 (IntKind.wrap .i64 ((i:Int)-1))))=some (.int .i64 ((i-1:Nat):Int)):=subN (k:=1) h hi
theorem a0U {i n:Nat}(h:i<n):inR (i:Int) n=true:=by simp only[inR,Bool.and_eq_true,decide_eq_true_eq];omega
theorem a8A {a b n:Nat}(h1:a<=b)(h2:b<=n):inI (a:Int) (b:Int) n=true:=by simp only[inI,Bool.and_eq_true,decide_eq_true_eq];omega
theorem ltN (a b:Nat):ltB (a:Int) (b:Int)=decide (a<b):=by simp only[ltB];congr 1;simp
theorem leN_ (a b:Nat):leB (a:Int) (b:Int)=decide (a<=b):=by simp only[leB];congr 1;simp
theorem a8E {a b:Nat}(h:a<=b):leN a b=true:=by simp[leN,h]
theorem a1u {a b:Nat}(h:a=b):eqN a b=true:=by simp[eqN,h]
theorem b5u {T:List (Nat×Ty)}{t xt e g n m w k:Nat}{y yx ye:Ty}{cs news:List V}{x:V}(h1:I4 t T=some y)(h2:I4 xt T=some yx)(h3:y.sh=.slice e)(h4:a4D yx.sh=true)(h5:I4 e T=some ye)
  (h6:a2L T e x H=some (m,news)) (h7:Nat.beq m 0=false) (h8:hget g H=some (.tip w n)) (h9:w=0∨w=ye.size) (h10:Nat.beq ye.size 0=false) (h11:n*ye.size=cs.length) (h12:(n+m)*(ye.bytes+1)<=70368744177664) :
  a2u T t xt (.slice (.tag g) n cs) x H k=some (.val (.slice (.tag g) (n+m) (cs++news)) (hset g (.tip ye.size (n+m)) H)):=by
 have hw:(Nat.beq w 0||Nat.beq w ye.size)=true:=by rcases h9 with rfl|rfl<;>simp
 simp only[a2u,h1,h2,h3,h4,h5,h6,h7,h8,hw,h10,a1u rfl,a1u h11,a8E h12,Bool.not_false,Bool.and_self,gd]
theorem Y6 {t:Nat}{a:Operand}{x v:V}(hw:u6 ops o fr=some true)(ho:o.op=.load t a)(ha:ev fr a=some x)(hl:a1Q env.T t x H=some v)(h:Os env orc ops rest (M5 o.dst v fr) H K):Os env orc ops (o::rest) fr H K:=by
 have hp:J4 o.op=false:=by rw[ho];rfl
 refine a0y hw hp (v:=v) (H1:=H) ?_ h
 unfold M4
 rw[ho]
 simp only[ha,hl]
theorem a9j {a b:Nat}{c:Operand}{x v:V}(hw:u6 ops o fr=some true)(ho:o.op=.convert a b c)(ha:ev fr c=some x)(hl:b0Z env.T a b x=some v)(h:Os env orc ops rest (M5 o.dst v fr) H K):Os env orc ops (o::rest) fr H K:=by
 have hp:J4 o.op=true:=by rw[ho];rfl
 refine a2i hw hp (v:=v) ?_ h
 rw[ho]
 simp only[O8,ha,hl]
theorem b0o:∀l:List UInt8,a2t (V6 l)=some l
 | []=>rfl
 | b::r=>by
  have:=b0o r
  simp only[V6,List.map_cons]at this ⊢
  simp only[a2t,this]
  congr 2
  simp
theorem half {x:Nat}(h:x<9223372036854775808):a1G (gd (!eqB (2:Int) 0) (some (.int .i64 (IntKind.wrap .i64 ((x:Int).tdiv 2)))))=some (.int .i64 ((x/2:Nat):Int)):=by
 have:(x:Int).tdiv 2 =((x/2:Nat):Int):=by rw[Int.tdiv_eq_ediv_of_nonneg (by omega)];omega
 rw[this,wrap64 (by omega) (by omega)]
 have:(!eqB (2:Int) 0)=true:=by simp[eqB]
 rw[this];rfl
theorem a5b {n':Nat}{cs':List V}{args:Array Operand}{at_:Array TypeId}{a b:Operand}{t xt e g n m w:Nat}{y yx ye:Ty}{cs news:List V}{x:V}(hw:u6 ops o fr=some true)(ho:o.op=.call ⟨.builtin .append,args,at_⟩)
  (ha:args.toList=[a,b]) (ht:at_.toList=[t,xt]) (hs:ev fr a=some (.slice (.tag g) n cs)) (hx:ev fr b=some x)
  (h1:I4 t env.T=some y) (h2:I4 xt env.T=some yx) (h3:y.sh=.slice e) (h4:a4D yx.sh=true) (h5:I4 e env.T=some ye)
  (h6:a2L env.T e x H=some (m,news)) (h7:Nat.beq m 0=false) (h8:hget g H=some (.tip w n)) (h9:w=0∨w=ye.size) (h10:Nat.beq ye.size 0=false) (h11:n*ye.size=cs.length) (h12:(n+m)*(ye.bytes+1)<=70368744177664)
  (hn:n+m=n') (hcs:cs++news=cs') (hH:O7 (some (hset g (.tip ye.size n') H))=some H1)
  (h:Os env orc ops rest (M5 o.dst (.slice (.tag g) n' cs') fr) H1 K):Os env orc ops (o::rest) fr H K:=by
 have hp:J4 o.op=false:=by rw[ho];rfl
 rw[a0E,Option.some.injEq]at hH
 subst hH hn hcs
 refine a0y hw hp ?_ h
 unfold M4
 rw[ho]
 simp only[ha,ht,hs,hx]
 exact b5u h1 h2 h3 h4 h5 h6 h7 h8 h9 h10 h11 h12
def Lp (env:Env)(f nr:Nat)(body:Code)(fr:Fr)(H:Hp)(K:Res->Prop):Prop:=∃r,E env (.loop f nr body fr) H=some (.res r)/\K r
def a5z (env:Env)(f nr:Nat)(body:Code)(K:Res->Prop):Res->Prop
 |(.normal,fr,H)=>∃fr1 H1,normal env f nr (a0h body) fr H=some (fr1,H1)/\Lp env f nr body fr1 H1 K
 | r=>K r
theorem b7x {body:Code}(h:Ev env (E env) f nr body fr H (a5z env f nr body K)):Lp env f nr body fr H K:=by
 obtain⟨⟨e,fr1,H1⟩,h1,h2⟩:=h
 cases e with
 | normal =>
  obtain⟨fr2,H2,h3,r,h4,h5⟩:=h2
  exact⟨r,b5q (by simp only[a4g,h1,h3];exact h4),h5⟩
 | ret=>exact⟨_,b5q (by simp only[a4g,h1]),h2⟩
 | exit i=>exact⟨_,b5q (by simp only[a4g,h1]),h2⟩
 | panic v=>exact⟨_,b5q (by simp only[a4g,h1]),h2⟩
theorem a2N {body:Code}(hn:normal env f nr (a0h body) fr H=some (fr1,H1))(h:Lp env f nr body fr1 H1 K):Ev env (E env) f nr (.loop body) fr H K:=by
 obtain⟨r,h1,h2⟩:=h
 exact⟨r,by simp only[u7,hn,h1],h2⟩
theorem Lp.mono {body:Code}{K K':Res->Prop}(h:Lp env f nr body fr H K)(hk:∀r,K r->K' r):Lp env f nr body fr H K':=by
 obtain⟨r,h1,h2⟩:=h;exact⟨r,h1,hk r h2⟩
theorem R8 {g:Nat}{fn:Func}{c:Code}{args:List V}{v1:V}{H2:Hp}(hi:env.intr g=none)(hf:env.P.funcs[g]? = some fn)(hok:env.ok g=true)(hb:fn.body=some c)
  (h:Ev env (E env) g H.length c (a1i 0 args) H (RetK env H.length fn.results.toList (env.frz g) (env.tags g) (env.a9C g) v1 H2)):E env (.call g args) H=some (.ret v1 H2) :=
 E_call hi (b6f hf hok hb h)
theorem E5 {g:Nat}{fn:Func}{c:Code}{args:List V}{out:Out}(hi:env.intr g=none)(hf:env.P.funcs[g]? = some fn)(hok:env.ok g=true)(hb:fn.body=some c)
  (h:Ev env (E env) g H.length c (a1i 0 args) H (a2a env g H.length fn.results.toList out)):E env (.call g args) H=some out :=
 E_call hi (run_out hf hok hb h)
def RetP (env:Env)(nr:Nat)(l:List ResultVar)(fz tg:Bool)(m:Nat->Bool)(P:V->Hp->Prop):Res->Prop
 |(.ret,fr,H1) |(.normal,fr,H1)=>∃v v1 H2,a4f env.T fr H1 l=some v/\finT fz tg m nr v H1=some (v1,H2)/\P v1 H2
 | _=>False
theorem b08 {g:Nat}{fn:Func}{c:Code}{args:List V}{P:V->Hp->Prop}(hi:env.intr g=none)(hf:env.P.funcs[g]? = some fn)(hok:env.ok g=true)(hb:fn.body=some c)
  (h:Ev env (E env) g H.length c (a1i 0 args) H (RetP env H.length fn.results.toList (env.frz g) (env.tags g) (env.a9C g) P)):∃v H2,E env (.call g args) H=some (.ret v H2)/\P v H2:=by
 obtain⟨⟨e,fr1,H1⟩,h1,h2⟩:=h
 cases e with
 | normal =>
  obtain⟨v,v1,H2,h3,h4,h5⟩:=h2
  exact⟨v1,H2,R8 hi hf hok hb ⟨_,h1,v,h3,h4⟩,h5⟩
 | ret =>
  obtain⟨v,v1,H2,h3,h4,h5⟩:=h2
  exact⟨v1,H2,R8 hi hf hok hb ⟨_,h1,v,h3,h4⟩,h5⟩
 | exit i=>exact h2.elim
 | panic v=>exact h2.elim
theorem a5s {σ:Type}{body:Code}(F:σ->Fr)(G:σ->Hp)(P:σ->Prop)(μ:σ->Nat)(i:σ)(hP:P i)
  (round:∀j,P j ->(∀j',μ j'<μ j->P j'->Lp env f nr body (F j') (G j') K)->Ev env (E env) f nr body (F j) (G j) (a5z env f nr body K)):Lp env f nr body (F i) (G i) K:=by
 have key:∀m j,μ j=m->P j->Lp env f nr body (F j) (G j) K:=by
  intro m
  induction m using Nat.strongRecOn with
  | _ m ih =>
   intro j hj hp
   exact b7x (round j hp fun j' hlt hp'=>ih (μ j') (by omega) j' rfl hp')
 exact key _ i rfl hP
end
end Go.Vm
namespace Go.Vm
def Off (D:List Nat)(fr fr':Fr):Prop:=∀s,has s D=false->look s fr=look s fr'
theorem Off.refl {D:List Nat}{fr:Fr}:Off D fr fr:=fun _ _=>rfl
theorem Off.symm {D:List Nat}{fr fr':Fr}(h:Off D fr fr'):Off D fr' fr:=fun s hs=>(h s hs).symm
theorem Off.trans {D:List Nat}{a b c:Fr}(h:Off D a b)(g:Off D b c):Off D a c:=fun s hs=>(h s hs).trans (g s hs)
theorem Off.left {D:List Nat}{a b:Fr}{k:Nat}{v:V}(hk:has k D=true)(h:Off D a b):Off D ((k,v)::a) b:=by
 intro s hs
 simp only[look]
 cases hb:Nat.beq k s with
 | true=>have:=Nat.eq_of_beq_eq_true hb;subst this;rw[hk]at hs;cases hs
 | false=>exact h s hs
theorem Off.right {D:List Nat}{a b:Fr}{k:Nat}{v:V}(hk:has k D=true)(h:Off D a b):Off D a ((k,v)::b):=(Off.left hk h.symm).symm
theorem Off.both {D:List Nat}{a b:Fr}{k:Nat}{v:V}(h:Off D a b):Off D ((k,v)::a) ((k,v)::b):=by
 intro s hs
 simp only[look]
 cases Nat.beq k s with
 | true=>rfl
 | false=>exact h s hs
def a6M (D:List Nat):Operand->Bool
 | .tmp t=>!has t D
 | _=>true
def offL (D:List Nat)(l:List Operand):Bool:=l.all (a6M D)
def offP (D:List Nat)(l:List (Nat×Operand)):Bool:=l.all fun p=>a6M D p.2
def offX (D:List Nat)(o:Option Operand):Bool:=match o with|none=>true|some x=>a6M D x
def b1K (D:List Nat):Op->Bool
 | .move x | .assign x | .nilCheck x | .unOp _ _ x | .convert _ _ x | .makeInterface _ x | .fieldAddr _ x _ | .field _ x _ | .typeAssert x .. | .extract x _ | .load _ x | .box _ x | .panic x=>a6M D x
 | .pick a b c=>a6M D a&&a6M D b&&a6M D c
 | .build _ ps | .buildSlice _ _ ps=>offP D ps.toList
 | .binOp _ _ x y _ | .indexAddr _ x y | .index _ x y | .store _ x y | .makeSlice _ x y | .lookup _ x y _=>a6M D x&&a6M D y
 | .mapUpdate _ x y z | .insert _ x y z=>a6M D x&&a6M D y&&a6M D z
 | .makeMap _ (some r)=>a6M D r
 | .makeFunc _ a b=>offL D a.toList&&offL D b.toList
 | .slice _ x lo hi mx=>a6M D x&&offX D lo&&offX D hi&&offX D mx
 | .alloc _ | .makeMap _ none=>true
 | .call c=>offL D c.args.toList&&(match c.callee with | .value f=>a6M D f | .invoke r _=>a6M D r|_=>true)
 | _=>false
section
variable {D:List Nat} {fr fr':Fr}
theorem L8 (h:Off D fr fr'){o:Operand}(ho:a6M D o=true):ev fr o=ev fr' o:=by
 cases o with
 | tmp t=>simp only[a6M,Bool.not_eq_true']at ho;simp only[ev,h t ho]
 | _=>rfl
theorem b0z (h:Off D fr fr'):∀{l:List Operand},offL D l=true->evL fr l=evL fr' l
 | [],_=>rfl
 | o::l,ho=>by
  simp only[offL,List.all_cons,Bool.and_eq_true]at ho
  have:=b0z h (l:=l) ho.2
  simp only[evL,Y5]at this ⊢
  rw[L8 h ho.1,this]
theorem b5D (h:Off D fr fr'):∀{l:List (Nat×Operand)},offP D l=true->evP fr l=evP fr' l
 | [],_=>rfl
 | o::l,ho=>by
  simp only[offP,List.all_cons,Bool.and_eq_true]at ho
  have:=b5D h (l:=l) ho.2
  simp only[evP,Y5]at this ⊢
  rw[L8 h ho.1,this]
theorem b5E (h:Off D fr fr'){o:Option Operand}(ho:offX D o=true):evX fr o=evX fr' o:=by
 cases o with
 | none=>rfl
 | some x=>simp only[evX,L8 h (o:=x) ho]
theorem c2e (h:Off D fr fr'){T:List (Nat×Ty)}{o:Op}(ho:b1K D o=true):O8 T fr o=O8 T fr' o:=by
 cases o<;>simp only[b1K,Bool.and_eq_true]at ho<;>try rfl
 case move x=>simp only[O8,L8 h ho]
 case assign x=>simp only[O8,L8 h ho]
 case nilCheck x=>simp only[O8,L8 h ho]
 case unOp x=>simp only[O8,L8 h ho]
 case convert x=>simp only[O8,L8 h ho]
 case makeInterface x=>simp only[O8,L8 h ho]
 case fieldAddr x _=>simp only[O8,L8 h ho]
 case field x _=>simp only[O8,L8 h ho]
 case typeAssert x _ _ _=>simp only[O8,L8 h ho]
 case extract x _=>simp only[O8,L8 h ho]
 case pick=>simp only[O8,L8 h ho.1.1,L8 h ho.1.2,L8 h ho.2]
 case build=>simp only[O8,b5D h ho]
 case buildSlice=>simp only[O8,b5D h ho]
 case binOp=>simp only[O8,L8 h ho.1,L8 h ho.2]
 case indexAddr=>simp only[O8,L8 h ho.1,L8 h ho.2]
 case index=>simp only[O8,L8 h ho.1,L8 h ho.2]
 case makeFunc=>simp only[O8,b0z h ho.1,b0z h ho.2]
 case slice=>simp only[O8,L8 h ho.1.1.1,b5E h ho.1.1.2,b5E h ho.1.2,b5E h ho.2]
 case call c =>
  obtain⟨callee,args,at_⟩:=c
  cases callee with
  | builtin b =>
   cases b<;>try rfl
   case len =>
    simp only[O8]
    generalize hl:args.toList=l at ho
    generalize at_.toList=ts
    match l,ts with
    | [x],t::_=>simp only[offL,List.all_cons,Bool.and_eq_true]at ho;simp only[L8 h ho.1.1]
    | [],_=>rfl
    | _::_::_,_=>rfl
    | [_],[]=>rfl
   case min =>
    simp only[O8]
    generalize hl:args.toList=l at ho
    match l with
    | [x,y]=>simp only[offL,List.all_cons,Bool.and_eq_true]at ho;simp only[L8 h ho.1.1,L8 h ho.1.2.1]
    | []=>rfl
    | [_]=>rfl
    | _::_::_::_=>rfl
   case max =>
    simp only[O8]
    generalize hl:args.toList=l at ho
    match l with
    | [x,y]=>simp only[offL,List.all_cons,Bool.and_eq_true]at ho;simp only[L8 h ho.1.1,L8 h ho.1.2.1]
    | []=>rfl
    | [_]=>rfl
    | _::_::_::_=>rfl
  | _=>rfl
theorem b9r {env:Env}{orc:Orc}{H:Hp}(h:Off D fr fr'){o:Oper}(ho:b1K D o.op=true):J6 env orc fr H o=J6 env orc fr' H o:=by
 unfold J6 M4 newName
 generalize o.dst=dst
 generalize o.op=op at ho
 rw[c2e h ho]
 cases hp:J4 op with
 | true=>rfl
 | false =>
  simp only
  cases op<;>simp only[b1K,Bool.and_eq_true]at ho<;>try rfl
  case makeMap t r =>
   cases r with
   | none=>rfl
   | some r=>simp only[L8 h (o:=r) (by simpa [b1K]using ho)]
  case lookup=>simp only[L8 h ho.1,L8 h ho.2]
  case mapUpdate=>simp only[L8 h ho.1.1,L8 h ho.1.2,L8 h ho.2]
  case insert=>simp only[L8 h ho.1.1,L8 h ho.1.2,L8 h ho.2]
  case load=>simp only[L8 h ho]
  case box=>simp only[L8 h ho]
  case panic=>simp only[L8 h ho]
  case store=>simp only[L8 h ho.1,L8 h ho.2]
  case makeSlice=>simp only[L8 h ho.1,L8 h ho.2]
  case call c =>
   obtain⟨callee,args,at_⟩:=c
   cases callee with
   | builtin b =>
    cases b<;>try rfl
    case append =>
     simp only
     generalize hl:args.toList=l at ho
     generalize at_.toList=ts
     match l,ts with
     | [x,y],[t,u]=>simp only[offL,List.all_cons,Bool.and_eq_true]at ho;simp only[L8 h ho.1.1,L8 h ho.1.2.1]
     | [],_=>rfl
     | [_],_=>rfl
     | _::_::_::_,_=>rfl
     | [_,_],[]=>rfl
     | [_,_],[_]=>rfl
     | [_,_],_::_::_::_=>rfl
    case copy =>
     simp only
     generalize hl:args.toList=l at ho
     generalize at_.toList=ts
     match l,ts with
     | [x,y],[t,u]=>simp only[offL,List.all_cons,Bool.and_eq_true]at ho;simp only[L8 h ho.1.1,L8 h ho.1.2.1]
     | [],_=>rfl
     | [_],_=>rfl
     | _::_::_::_,_=>rfl
     | [_,_],[]=>rfl
     | [_,_],[_]=>rfl
     | [_,_],_::_::_::_=>rfl
   | value f=>simp only[L8 h ho.2,b0z h ho.1]
   | invoke r m=>simp only[L8 h ho.2,b0z h ho.1]
def a5V (D:List Nat)(ops:Array Oper)(o:Oper):Bool:=b1K D o.op&&(match o.guard with|none=>true|some (j,_)=>match (ops[j]?).bind (·.dst)with|some t=>!has t D|none=>true)
theorem b8k {ops:Array Oper}{o:Oper}(h:Off D fr fr')(ho:a5V D ops o=true):u6 ops o fr=u6 ops o fr':=by
 simp only[a5V,Bool.and_eq_true]at ho
 unfold u6
 cases hg:o.guard with
 | none=>rfl
 | some x =>
  obtain⟨j,w⟩:=x
  have h2:=ho.2
  rw[hg]at h2
  simp only at h2 ⊢
  unfold a88
  cases hd:(ops[j]?).bind (·.dst)with
  | none=>rfl
  | some t =>
   rw[hd]at h2
   simp only[Bool.not_eq_true']at h2
   simp only[h t h2]
theorem Off.put (h:Off D fr fr'){d:Option Nat}{v:V}:Off D (M5 d v fr) (M5 d v fr'):=by
 cases d with
 | none=>exact h
 | some d=>exact h.both
def OffR (D:List Nat):Option Res->Option Res->Prop
 | none,none=>True
 | some (e,fr,H),some (e',fr',H')=>e=e'/\H=H'/\Off D fr fr'
 | _,_=>False
theorem OffR.refl {r:Option Res}:OffR D r r:=by
 cases r with
 | none=>trivial
 | some r=>exact⟨rfl,rfl,.refl⟩
theorem a8x {env:Env}{orc:Orc}{ops:Array Oper}:∀{l:List Oper} {fr fr':Fr} {H:Hp},Off D fr fr'->l.all (a5V D ops)=true->OffR D (H7 env orc ops l fr H) (H7 env orc ops l fr' H)
 | [],fr,fr',H,h,_=>⟨rfl,rfl,h⟩
 | o::l,fr,fr',H,h,ho=>by
  simp only[List.all_cons,Bool.and_eq_true]at ho
  have h2:b1K D o.op=true:=by have:=ho.1;simp only[a5V,Bool.and_eq_true]at this;exact this.1
  simp only[H7]
  rw[b8k h ho.1,b9r h h2]
  cases u6 ops o fr' with
  | none=>trivial
  | some b =>
   cases b with
   | false=>exact a8x h.put ho.2
   | true =>
    cases J6 env orc fr' H o with
    | none=>trivial
    | some r =>
     cases r with
     | val v H1=>exact a8x h.put ho.2
     | pan v H1=>exact⟨rfl,rfl,h⟩
def b0c (env:Env)(f:Nat)(D:List Nat):Code->Bool
 | .region id ops d=>!isSome (a9Q env f id d)&&ops.toList.all (a5V D ops)
 | .seq a b=>!env.cut f (a1g b)&&b0c env f D a&&b0c env f D b
 | .cond c a b=>a6M D c&&b0c env f D a&&b0c env f D b
 | .block _ c=>b0c env f D c
 | .loop body=>!isSome (env.ice f (a0h body))&&(env.keep f (a0h body)).all fun s=>!has s D
 | .skip | .label _ | .exit _ | .ret=>true
 | _=>false
theorem b3n {env:Env}{f nr lp:Nat}{H:Hp}(h:Off D fr fr')(hk:(!isSome (env.ice f lp)&&(env.keep f lp).all fun s=>!has s D)=true):normal env f nr lp fr H=normal env f nr lp fr' H:=by
 simp only[Bool.and_eq_true,Bool.not_eq_true']at hk
 obtain⟨hi,hk⟩:=hk
 have hi:env.ice f lp=none:=by
  cases hq:env.ice f lp with
  | none=>rfl
  | some x=>rw[hq]at hi;cases hi
 have:((env.keep f lp).map fun s=>(s,look s fr)) =((env.keep f lp).map fun s=>(s,look s fr')):=by
  apply List.map_congr_left
  intro s hs
  have:=List.all_eq_true.1 hk s hs
  rw[h s (by simpa using this)]
 unfold normal
 rw[hi]
 simp only
 unfold b0G
 rw[this]
theorem c1u {ops:Array Oper}{b:Bool}(hc:ops.toList.all (a5V D ops)=true){r r':Option Res}(h:OffR D r r'):OffR D (a4n b ops r) (a4n b ops r'):=by
 cases b with
 | false=>exact h
 | true =>
  cases r with
  | none =>
   cases r' with
   | none=>trivial
   | some r'=>exact h.elim
  | some r =>
   cases r' with
   | none=>exact h.elim
   | some r' =>
    obtain⟨e,g,H1⟩:=r
    obtain⟨e',g',H1'⟩:=r'
    obtain⟨rfl,rfl,h3⟩:=h
    cases e with
    | normal =>
     have he:((a1h ops.toList).all fun t=>a5q (look t g)) =((a1h ops.toList).all fun t=>a5q (look t g')):=by
      have key:∀l:List Oper,l.all (a5V D ops)=true ->((a1h l).all fun t=>a5q (look t g)) =((a1h l).all fun t=>a5q (look t g')):=by
       intro l
       induction l with
       | nil=>intro _;rfl
       | cons o l ih =>
        intro hl
        simp only[List.all_cons,Bool.and_eq_true]at hl
        simp only[a1h]
        cases ht:a1J o with
        | none=>exact ih hl.2
        | some t =>
         simp only[List.all_cons]
         rw[ih hl.2]
         have h4:has t D=false:=by
          have h5:=hl.1
          simp only[a5V,Bool.and_eq_true]at h5
          unfold a1J at ht
          split at ht
          ·rename_i ty t' hop
           cases ht
           have h6:=h5.1
           rw[hop]at h6
           simpa [b1K,a6M]using h6
          ·cases ht
         rw[h3 t h4]
      exact key _ hc
     simp only[a4n,he]
     cases(a1h ops.toList).all fun t=>a5q (look t g')with
     | true=>exact⟨rfl,rfl,h3⟩
     | false=>trivial
    | ret=>trivial
    | exit i=>trivial
    | panic v=>trivial
theorem b5G {env:Env}{orc:Orc}{f nr:Nat}:∀{c:Code} {fr fr':Fr} {H:Hp},Off D fr fr'->b0c env f D c=true->OffR D (u7 env orc f nr c fr H) (u7 env orc f nr c fr' H):=by
 intro c
 induction c with
 | region id ops d =>
  intro fr fr' H h hc
  simp only[b0c,Bool.and_eq_true,Bool.not_eq_true']at hc
  obtain⟨hs,hc⟩:=hc
  have hs2:a9Q env f id d=none:=by
   cases hq:a9Q env f id d with
   | none=>rfl
   | some x=>rw[hq]at hs;cases hs
  simp only[u7,hs2]
  refine c1u hc ?_
  have:=a8x (env:=env) (orc:=orc) (ops:=ops) (H:=H) h hc
  revert this
  cases H7 env orc ops ops.toList fr H with
  | none =>
   cases H7 env orc ops ops.toList fr' H with
   | none=>intro _;trivial
   | some r=>intro h;exact h.elim
  | some r =>
   cases H7 env orc ops ops.toList fr' H with
   | none=>intro h;exact h.elim
   | some r' =>
    obtain⟨e,g,H1⟩:=r
    obtain⟨e',g',H1'⟩:=r'
    rintro⟨rfl,rfl,h3⟩
    cases e with
    | panic v=>cases d with
     | true=>trivial
     | false=>exact⟨rfl,rfl,h3⟩
    | _=>exact⟨rfl,rfl,h3⟩
 | seq a b iha ihb =>
  intro fr fr' H h hc
  simp only[b0c,Bool.and_eq_true,Bool.not_eq_true']at hc
  simp only[u7,cutAt,hc.1.1]
  have:=iha (H:=H) h hc.1.2
  revert this
  cases u7 env orc f nr a fr H with
  | none =>
   cases u7 env orc f nr a fr' H with
   | none=>intro _;trivial
   | some r=>intro h;exact h.elim
  | some r =>
   cases u7 env orc f nr a fr' H with
   | none=>intro h;exact h.elim
   | some r' =>
    obtain⟨e,g,H1⟩:=r
    obtain⟨e',g',H1'⟩:=r'
    rintro⟨rfl,rfl,h3⟩
    cases e with
    | normal=>exact ihb h3 hc.2
    | _=>exact⟨rfl,rfl,h3⟩
 | cond c a b iha ihb =>
  intro fr fr' H h hc
  simp only[b0c,Bool.and_eq_true]at hc
  simp only[u7]
  rw[L8 h hc.1.1]
  cases ev fr' c with
  | none=>trivial
  | some v =>
   cases v with
   | bool t=>cases t with
    | true=>exact iha h hc.1.2
    | false=>exact ihb h hc.2
   | _=>trivial
 | block id a iha =>
  intro fr fr' H h hc
  simp only[b0c]at hc
  simp only[u7]
  have:=iha (H:=H) h hc
  revert this
  cases u7 env orc f nr a fr H with
  | none =>
   cases u7 env orc f nr a fr' H with
   | none=>intro _;trivial
   | some r=>intro h;exact h.elim
  | some r =>
   cases u7 env orc f nr a fr' H with
   | none=>intro h;exact h.elim
   | some r' =>
    obtain⟨e,g,H1⟩:=r
    obtain⟨e',g',H1'⟩:=r'
    rintro⟨rfl,rfl,h3⟩
    cases e with
    | exit i =>
     simp only
     cases Nat.beq i id with
     | true=>exact⟨rfl,rfl,h3⟩
     | false=>exact⟨rfl,rfl,h3⟩
    | _=>exact⟨rfl,rfl,h3⟩
 | loop a iha =>
  intro fr fr' H h hc
  simp only[b0c]at hc
  simp only[u7]
  rw[b3n h hc]
  exact .refl
 | skip=>intro fr fr' H h _;exact⟨rfl,rfl,h⟩
 | label=>intro fr fr' H h _;exact⟨rfl,rfl,h⟩
 | exit=>intro fr fr' H h _;exact⟨rfl,rfl,h⟩
 | ret=>intro fr fr' H h _;exact⟨rfl,rfl,h⟩
 | _=>intro fr fr' H h hc;cases hc
section
variable {env:Env} {orc:Orc} {f nr:Nat} {H H1:Hp} {K:Res->Prop}
def b05 (D:List Nat)(K:Res->Prop):Prop:=∀e g g' H,Off D g g'->K (e,g,H)->K (e,g',H)
theorem b4y {c:Code}(D:List Nat)(hc:b0c env f D c=true)(hK:b05 D K){fr fr':Fr}(ho:Off D fr' fr)(h:Ev env orc f nr c fr' H K):Ev env orc f nr c fr H K:=by
 obtain⟨⟨e,g,H1⟩,h1,h2⟩:=h
 have:=b5G (env:=env) (orc:=orc) (nr:=nr) (H:=H) ho hc
 rw[h1]at this
 revert this
 cases hq:u7 env orc f nr c fr H with
 | none=>intro h;exact h.elim
 | some r =>
  obtain⟨e',g',H1'⟩:=r
  rintro⟨rfl,rfl,h3⟩
  exact⟨_,hq,hK _ _ _ _ h3 h2⟩
theorem c1L {b:Code}(hb:b0c env f D b=true)(hK:b05 D K):b05 D (thenK env orc f nr b K):=by
 intro e g g' H ho h
 cases e with
 | normal=>exact b4y D hb hK ho h
 | _=>exact hK _ _ _ _ ho h
theorem b9D {id:Nat}(hK:b05 D K):b05 D (b5v id K):=by
 intro e g g' H ho h
 cases e with
 | exit i =>
  simp only[b5v]at h ⊢
  cases hb:Nat.beq i id with
  | true=>rw[hb]at h;exact hK _ _ _ _ ho h
  | false=>rw[hb]at h;exact hK _ _ _ _ ho h
 | _=>exact hK _ _ _ _ ho h
theorem b9E {body:Code}(hk:(!isSome (env.ice f (a0h body))&&(env.keep f (a0h body)).all fun s=>!has s D)=true)(hK:b05 D K):b05 D (a5z env f nr body K):=by
 intro e g g' H ho h
 cases e with
 | normal =>
  obtain⟨fr1,H1,h1,h2⟩:=h
  exact⟨fr1,H1,by rw[<-b3n ho hk];exact h1,h2⟩
 | _=>exact hK _ _ _ _ ho h
def b3o (D:List Nat)(l:List ResultVar):Bool:=l.all fun | .tmp t=>!has t D | .cell t _=>!has t D
theorem a5Z {T:List (Nat×Ty)}{l:List ResultVar}(h:Off D fr fr')(hl:b3o D l=true):a4f T fr H l=a4f T fr' H l:=by
 have:∀{l:List ResultVar},b3o D l=true->Y5 (b2a T fr H) l=Y5 (b2a T fr' H) l:=by
  intro l
  induction l with
  | nil=>intro _;rfl
  | cons r l ih =>
   intro hl
   simp only[b3o,List.all_cons,Bool.and_eq_true]at hl
   have h1:b2a T fr H r=b2a T fr' H r:=by
    cases r with
    | tmp t=>simp only[b2a,h t (by simpa using hl.1)]
    | cell t _=>simp only[b2a,h t (by simpa using hl.1)]
   simp only[Y5]
   rw[h1,ih hl.2]
 unfold a4f
 rw[this hl]
theorem resp_ret {l:List ResultVar}{fz tg:Bool}{m:Nat->Bool}{v1:V}{H2:Hp}(hl:b3o D l=true):b05 D (RetK env nr l fz tg m v1 H2):=by
 intro e g g' H ho h
 cases e with
 | normal=>obtain⟨v,h1,h2⟩:=h;exact⟨v,by rw[<-a5Z ho hl];exact h1,h2⟩
 | ret=>obtain⟨v,h1,h2⟩:=h;exact⟨v,by rw[<-a5Z ho hl];exact h1,h2⟩
 | _=>exact h
theorem c1K {l:List ResultVar}{fz tg:Bool}{m:Nat->Bool}{P:V->Hp->Prop}(hl:b3o D l=true):b05 D (RetP env nr l fz tg m P):=by
 intro e g g' H ho h
 cases e with
 | normal=>obtain⟨v,v1,H2,h1,h2⟩:=h;exact⟨v,v1,H2,by rw[<-a5Z ho hl];exact h1,h2⟩
 | ret=>obtain⟨v,v1,H2,h1,h2⟩:=h;exact⟨v,v1,H2,by rw[<-a5Z ho hl];exact h1,h2⟩
 | _=>exact h
def joinK {α:Type}(D:List Nat)(F:α->Fr)(G:α->Hp)(Q:α->Prop)(K:Res->Prop):Res->Prop
 |(.normal,g,H)=>∃x,Q x/\Off D (F x) g/\H=G x
 | r=>K r
theorem ev_join {a b:Code}{fr:Fr}{α:Type}(D:List Nat)(F:α->Fr->Fr)(G:α->Hp->Hp)(Q:α->Prop)(hb:b0c env f D b=true)(hK:b05 D K)
  (h1:Ev env orc f nr a fr H (joinK D (fun x=>F x fr) (fun x=>G x H) Q K)) (h2:∀x,Q x->Ev env orc f nr b (F x fr) (G x H) K) (hcu:env.cut f (a1g b)=false:=by rfl):Ev env orc f nr (.seq a b) fr H K:=by
 refine C8 ?_ hcu
 obtain⟨⟨e,g,H1⟩,h3,h4⟩:=h1
 refine⟨_,h3,?_⟩
 cases e with
 | normal =>
  obtain⟨x,hx,ho,rfl⟩:=h4
  exact b4y D hb hK ho (h2 x hx)
 | _=>exact h4
theorem ev_joinF {a b:Code}{fr:Fr}{α:Type}(D:List Nat)(F:α->Fr->Fr)(Q:α->Prop)(hb:b0c env f D b=true)(hK:b05 D K)
  (h1:Ev env orc f nr a fr H (joinK D (fun x=>F x fr) (fun _=>H) Q K)) (h2:∀x,Q x->Ev env orc f nr b (F x fr) H K) (hcu:env.cut f (a1g b)=false:=by rfl):Ev env orc f nr (.seq a b) fr H K :=
 ev_join D F (fun _ H=>H) Q hb hK h1 h2 hcu
theorem c1J {α:Type}{D D':List Nat}{F:α->Fr}{G:α->Hp}{Q:α->Prop}(hD:(D'.all fun s=>has s D)=true)(hK:b05 D' K):b05 D' (joinK D F G Q K):=by
 intro e g g' H ho h
 have hs:∀{s},has s D=false->has s D'=false:=by
  intro s hs
  have key:∀l:List Nat,has s l=true ->(l.all fun s=>has s D)=true->has s D=true:=by
   intro l
   induction l with
   | nil=>intro h;cases h
   | cons a l ih =>
    intro h1 h2
    simp only[List.all_cons,Bool.and_eq_true]at h2
    simp only[has]at h1
    cases hb:Nat.beq a s with
    | true=>have:=Nat.eq_of_beq_eq_true hb;subst this;exact h2.1
    | false=>rw[hb]at h1;exact ih h1 h2.2
  cases h3:has s D' with
  | false=>rfl
  | true=>rw[key D' h3 hD]at hs;cases hs
 cases e with
 | normal =>
  obtain⟨x,hx,h1,h2⟩:=h
  exact⟨x,hx,fun s h3=>(h1 s h3).trans (ho s (hs h3)),h2⟩
 | _=>exact hK _ _ _ _ ho h
theorem Off.noop {D:List Nat}{a b:Fr}{k:Nat}{v:V}(hl:look k b=v)(h:Off D a b):Off D ((k,v)::a) b:=by
 intro s hs
 simp only[look]
 cases hb:Nat.beq k s with
 | true=>have:=Nat.eq_of_beq_eq_true hb;subst this;exact hl.symm
 | false=>exact h s hs
end
end
end Go.Vm
namespace Go.Vm
section
variable {env:Env} {orc:Orc} {ops:Array Oper} {o:Oper} {rest:List Oper} {fr:Fr} {H H1:Hp} {K:Res->Prop}
end
end Go.Vm
namespace Go.Vm
abbrev Str:=List UInt8
inductive Rs (α β:Type) where
 | ok (a:α)
 | pan (b:β)
inductive Lr (α ρ:Type) where
 | brk (a:α)
 | out (r:ρ)
section
variable {α β γ δ ρ:Type}
def l5 (o:Option (Rs α β))(k:α->Option γ)(p:β->Option γ):Option γ:=match o with
 | none=>none
 | some (.ok a)=>k a
 | some (.pan b)=>p b
def Y9 (o:Option (Lr α ρ))(k:α->Option ρ):Option ρ:=match o with
 | none=>none
 | some (.brk a)=>k a
 | some (.out r)=>some r
def a5N (o:Option (Lr α ρ))(k:α->Option (Lr γ ρ)):Option (Lr γ ρ):=match o with
 | none=>none
 | some (.brk a)=>k a
 | some (.out r)=>some (.out r)
theorem a1b {o:Option α}{k:α->Option γ}{r:γ}(h:o.bind k=some r):∃x,o=some x/\k x=some r:=by
 cases o with
 | none=>cases h
 | some x=>exact⟨x,rfl,h⟩
theorem c08 {o:Option (Rs α β)}{k:α->Option γ}{p:β->Option γ}{r:γ}(h:l5 o k p=some r):(∃a,o=some (.ok a)/\k a=some r) ∨ ∃b,o=some (.pan b)/\p b=some r:=by
 cases o with
 | none=>cases h
 | some x=>cases x with
  | ok a=>exact .inl ⟨a,rfl,h⟩
  | pan b=>exact .inr ⟨b,rfl,h⟩
theorem c07 {o:Option (Lr α ρ)}{k:α->Option ρ}{r:ρ}(h:Y9 o k=some r):∃y,o=some y/\(match y with | .brk a=>k a | .out r'=>some r')=some r:=by
 cases o with
 | none=>cases h
 | some x=>cases x with
  | brk a=>exact⟨_,rfl,h⟩
  | out b=>exact⟨_,rfl,h⟩
theorem c09 {o:Option (Lr α ρ)}{k:α->Option (Lr γ ρ)}{r:Lr γ ρ}(h:a5N o k=some r):∃y,o=some y/\(match y with | .brk a=>k a | .out r'=>some (.out r'))=some r:=by
 cases o with
 | none=>cases h
 | some x=>cases x with
  | brk a=>exact⟨_,rfl,h⟩
  | out b=>exact⟨_,rfl,h⟩
theorem cond_t {c:Bool}{a b r:γ}(h:cond c a b=r)(hc:c=true):a=r:=by subst hc;exact h
theorem cond_f {c:Bool}{a b r:γ}(h:cond c a b=r)(hc:c=false):b=r:=by subst hc;exact h
def idx' (l:List α)(i:Int):Option α:=match inR i l.length with
 | true=>l[i.toNat]?
 | false=>none
def idxS (s:Str)(i:Int):Option Int:=match inR i s.length with
 | true=>some ((s.getD i.toNat 0).toNat:Nat)
 | false=>none
def subS (s:Str)(a b:Int):Option Str:=match inI a b s.length with
 | true=>some ((s.take b.toNat).drop a.toNat)
 | false=>none
def subL (l:List α)(a b:Int):Option (List α):=match inI a b l.length with
 | true=>some ((l.take b.toNat).drop a.toNat)
 | false=>none
def cat (a b:Str):Option Str:=match leB ((a.length+b.length:Nat):Int) 9223372036854775807 with
 | true=>some (a++b)
 | false=>none
def app (bytes:Nat)(l m:List α):Option (List α):=match leN ((l.length+m.length)*(bytes+1)) 70368744177664 with
 | true=>some (l++m)
 | false=>none
def gdO (c:Bool)(x:Option γ):Option γ:=match c with
 | true=>x
 | false=>none
theorem gdO_inv {c:Bool}{x:Option γ}{r:γ}(h:gdO c x=some r):c=true/\x=some r:=by
 cases c with
 | true=>exact⟨rfl,h⟩
 | false=>cases h
theorem idx'_inv {l:List α}{i:Int}{x:α}(h:idx' l i=some x):inR i l.length=true/\l[i.toNat]? = some x:=by
 unfold idx' at h
 cases hc:inR i l.length with
 | true=>rw[hc]at h;exact⟨rfl,h⟩
 | false=>rw[hc]at h;cases h
theorem idxS_inv {s:Str}{i x:Int}(h:idxS s i=some x):inR i s.length=true/\((s.getD i.toNat 0).toNat:Nat)=x:=by
 unfold idxS at h
 cases hc:inR i s.length with
 | true=>rw[hc]at h;exact⟨rfl,Option.some.inj h⟩
 | false=>rw[hc]at h;cases h
theorem subS_inv {s x:Str}{a b:Int}(h:subS s a b=some x):inI a b s.length=true/\(s.take b.toNat).drop a.toNat=x:=by
 unfold subS at h
 cases hc:inI a b s.length with
 | true=>rw[hc]at h;exact⟨rfl,Option.some.inj h⟩
 | false=>rw[hc]at h;cases h
theorem subL_inv {l x:List α}{a b:Int}(h:subL l a b=some x):inI a b l.length=true/\(l.take b.toNat).drop a.toNat=x:=by
 unfold subL at h
 cases hc:inI a b l.length with
 | true=>rw[hc]at h;exact⟨rfl,Option.some.inj h⟩
 | false=>rw[hc]at h;cases h
theorem cat_inv {a b x:Str}(h:cat a b=some x):leB ((a.length+b.length:Nat):Int) 9223372036854775807=true/\a++b=x:=by
 unfold cat at h
 cases hc:leB ((a.length+b.length:Nat):Int) 9223372036854775807 with
 | true=>rw[hc]at h;exact⟨rfl,Option.some.inj h⟩
 | false=>rw[hc]at h;cases h
theorem b0s {bytes:Nat}{l m x:List α}(h:app bytes l m=some x):(l.length+m.length)*(bytes+1)<=70368744177664/\l++m=x:=by
 unfold app at h
 cases hc:leN ((l.length+m.length)*(bytes+1)) 70368744177664 with
 | true=>rw[hc]at h;exact⟨by simpa [leN]using hc,Option.some.inj h⟩
 | false=>rw[hc]at h;cases h
end
structure a03 {α:Type}(sz:Nat)(c1:α->List V)(cl:List α->List V):Prop where
 len:∀x,(c1 x).length=sz
 nil:cl []=[]
 cons:∀x r,cl (x::r)=c1 x++cl r
section
variable {α:Type} {sz:Nat} {c1:α->List V} {cl:List α->List V}
theorem a03.append (h:a03 sz c1 cl):∀a b:List α,cl (a++b)=cl a++cl b
 | [],b=>by rw[h.nil];rfl
 | x::a,b=>by rw[List.cons_append,h.cons,h.cons,h.append a b,List.append_assoc]
theorem a03.length (h:a03 sz c1 cl):∀a:List α,(cl a).length=a.length*sz
 | []=>by rw[h.nil];simp
 | x::a=>by rw[h.cons,List.length_append,h.len,h.length a,List.length_cons,Nat.succ_mul,Nat.add_comm]
theorem a03.drop (h:a03 sz c1 cl):∀(k:Nat) (a:List α),(cl a).drop (k*sz)=cl (a.drop k)
 | 0,a=>by simp
 | k+1,[]=>by simp[h.nil]
 | k+1,x::a=>by
  rw[h.cons,Nat.succ_mul,Nat.add_comm,<-List.drop_drop]
  rw[List.drop_left' (h.len x),h.drop k a];rfl
theorem a03.take (h:a03 sz c1 cl):∀(k:Nat) (a:List α),(cl a).take (k*sz)=cl (a.take k)
 | 0,a=>by simp[h.nil]
 | k+1,[]=>by simp[h.nil]
 | k+1,x::a=>by
  rw[h.cons,Nat.succ_mul,Nat.add_comm,List.take_append,List.take_of_length_le (by rw[h.len];omega),h.len,show sz+k*sz-sz=k*sz from by omega,h.take k a,List.take_succ_cons,h.cons]
theorem a03.at (h:a03 sz c1 cl){l:List α}{i:Nat}{x:α}(hx:l[i]? = some x):(cl l).drop (i*sz)=c1 x++cl (l.drop (i+1)):=by
 rw[h.drop]
 have hi:i<l.length:=by
  rcases Nat.lt_or_ge i l.length with h1|h1
  ·exact h1
  ·rw[List.getElem?_eq_none h1]at hx;cases hx
 rw[List.drop_eq_getElem_cons hi,h.cons]
 rw[List.getElem?_eq_getElem hi]at hx
 cases hx;rfl
end
def tpe (sz:Nat):Nat->Nat
 | 0=>0
 | _+1=>sz
def clS:List Str->List V:=List.map V.str
theorem encS:a03 1 (fun s:Str=>[V.str s]) clS:=⟨fun _=>rfl,rfl,fun _ _=>rfl⟩
def clI (k:IntKind):List Int->List V:=List.map (V.int k)
theorem encI (k:IntKind):a03 1 (fun n:Int=>[V.int k n]) (clI k):=⟨fun _=>rfl,rfl,fun _ _=>rfl⟩
def clB:List Bool->List V:=List.map V.bool
theorem encB:a03 1 (fun n:Bool=>[V.bool n]) clB:=⟨fun _=>rfl,rfl,fun _ _=>rfl⟩
def clSl {α:Type}(cl:List α->List V):List (List α)->List V:=List.map fun l=>.slice .sealed (List.length l) (cl l)
theorem encSl {α:Type}(cl:List α->List V):a03 1 (fun l:List α=>[V.slice .sealed (List.length l) (cl l)]) (clSl cl):=⟨fun _=>rfl,rfl,fun _ _=>rfl⟩
def bytesOf (l:List Int):Str:=l.map fun n=>UInt8.ofNat n.toNat
def b9a (s:Str):List Int:=s.map fun b=>((b.toNat:Nat):Int)
section
variable {env:Env} {orc:Orc} {f nr:Nat} {ops:Array Oper} {o:Oper} {rest:List Oper} {fr fr1:Fr} {H H1:Hp} {K:Res->Prop}
theorem os_idx {α:Type}{sz:Nat}{c1:α->List V}{cl:List α->List V}(he:a03 sz c1 cl){l:List α}{i:Int}{x:α}{k:IntKind}{t e:Nat}{a b:Operand}{ow:Own}{y ye:Ty}(hx:idx' l i=some x)(hw:u6 ops o fr=some true)(ho:o.op=.indexAddr t a b)
  (ha:ev fr a=some (.slice ow l.length (cl l))) (hb:ev fr b=some (.int k i)) (h1:I4 t env.T=some y) (h2:y.sh=.slice e) (h3:I4 e env.T=some ye) (h4:ye.size=sz)
  (h:Os env orc ops rest (M5 o.dst (.cptr (c1 x++cl (l.drop (i.toNat+1)))) fr) H K):Os env orc ops (o::rest) fr H K:=by
 have hp:J4 o.op=true:=by rw[ho];rfl
 obtain⟨g1,g2⟩:=idx'_inv hx
 refine a2i hw hp ?_ h
 rw[ho]
 simp only[O8,ha,hb,a7N,h1,h2,h3,h4,g1,gd,he.at g2]
theorem os_idxS {s:Str}{i x:Int}{k:IntKind}{t:Nat}{a b:Operand}{y:Ty}(hx:idxS s i=some x)(hw:u6 ops o fr=some true)(ho:o.op=.index t a b)
  (ha:ev fr a=some (.str s)) (hb:ev fr b=some (.int k i)) (h1:I4 t env.T=some y) (h2:y.sh=.string)
  (h:Os env orc ops rest (M5 o.dst (.int .u8 x) fr) H K):Os env orc ops (o::rest) fr H K:=by
 have hp:J4 o.op=true:=by rw[ho];rfl
 obtain⟨g1,rfl⟩:=idxS_inv hx
 refine a2i hw hp ?_ h
 rw[ho]
 simp only[O8,ha,hb,b6u,h1,h2,g1,gd]
theorem os_subS {s x:Str}{i j:Int}{t:Nat}{a:Operand}{lo hi:Option Operand}{l' h':Option V}{y:Ty}(hx:subS s i j=some x)(hw:u6 ops o fr=some true)(ho:o.op=.slice t a lo hi none)
  (ha:ev fr a=some (.str s)) (hl:evX fr lo=some l') (hh:evX fr hi=some h') (hi':bnd l' 0=some i) (hj':bnd h' s.length=some j) (h1:I4 t env.T=some y) (h2:y.sh=.string)
  (h:Os env orc ops rest (M5 o.dst (.str x) fr) H K):Os env orc ops (o::rest) fr H K:=by
 have hp:J4 o.op=true:=by rw[ho];rfl
 obtain⟨g1,rfl⟩:=subS_inv hx
 refine a2i hw hp ?_ h
 rw[ho]
 have hx0:evX fr none=some none:=rfl
 simp only[O8,ha,hl,hh,hx0,b1u,h1,h2,hi',hj',g1,gd]
theorem os_subL {α:Type}{sz:Nat}{c1:α->List V}{cl:List α->List V}(he:a03 sz c1 cl){l x:List α}{i j:Int}{t e:Nat}{ow:Own}{a:Operand}{lo hi:Option Operand}{l' h':Option V}{y ye:Ty}(hx:subL l i j=some x)(hw:u6 ops o fr=some true)(ho:o.op=.slice t a lo hi none)
  (ha:ev fr a=some (.slice ow l.length (cl l))) (hl:evX fr lo=some l') (hh:evX fr hi=some h') (hi':bnd l' 0=some i) (hj':bnd h' l.length=some j) (h1:I4 t env.T=some y) (h2:y.sh=.slice e) (h3:I4 e env.T=some ye) (h4:ye.size=sz) (hq:(l'.isSome||h'.isSome)=true)
  (h:Os env orc ops rest (M5 o.dst (.slice .sealed x.length (cl x)) fr) H K):Os env orc ops (o::rest) fr H K:=by
 have hp:J4 o.op=true:=by rw[ho];rfl
 obtain⟨g1,rfl⟩:=subL_inv hx
 subst h4
 refine a2i hw hp ?_ h
 rw[ho]
 have hx0:evX fr none=some none:=rfl
 have hlen:((l.take j.toNat).drop i.toNat).length=j.toNat-i.toNat:=by
  have:=g1
  simp only[inI,Bool.and_eq_true,decide_eq_true_eq]at this
  rw[List.length_drop,List.length_take]
  omega
 rw[hlen,<-he.drop,<-he.take]
 cases l' with
 | none=>cases h' with
  | none=>cases hq
  | some q=>simp only[O8,ha,hl,hh,hx0,b1u,h1,h2,h3,hi',hj',g1,gd]
 | some q=>simp only[O8,ha,hl,hh,hx0,b1u,h1,h2,h3,hi',hj',g1,gd]
theorem os_cat {s u x:Str}{t t2:Nat}{a b:Operand}(hx:cat s u=some x)(hw:u6 ops o fr=some true)(ho:o.op=.binOp .add t a b t2)
  (ha:ev fr a=some (.str s)) (hb:ev fr b=some (.str u))
  (h:Os env orc ops rest (M5 o.dst (.str x) fr) H K):Os env orc ops (o::rest) fr H K:=by
 have hp:J4 o.op=true:=by rw[ho];rfl
 obtain⟨g1,rfl⟩:=cat_inv hx
 refine a2i hw hp ?_ h
 rw[ho]
 simp only[O8,ha,hb,vBin,vStr,g1,gd]
theorem b9s {α:Type}{sz:Nat}{c1:α->List V}{cl:List α->List V}(he:a03 sz c1 cl){l m x:List α}{bytes:Nat}{args:Array Operand}{at_:Array TypeId}{a b:Operand}{t xt e g:Nat}{y yx ye:Ty}{v:V}(hx:app bytes l m=some x)
  (hw:u6 ops o fr=some true) (ho:o.op=.call ⟨.builtin .append,args,at_⟩)
  (ha:args.toList=[a,b]) (ht:at_.toList=[t,xt]) (hs:ev fr a=some (.slice (.tag g) l.length (cl l))) (hv:ev fr b=some v)
  (h1:I4 t env.T=some y) (h2:I4 xt env.T=some yx) (h3:y.sh=.slice e) (h4:a4D yx.sh=true) (h5:I4 e env.T=some ye) (h6:ye.size=sz) (h7:ye.bytes=bytes) (h8:Nat.beq sz 0=false)
  (h9:a2L env.T e v H=some (m.length,cl m)) (hm:Nat.beq m.length 0=false) (h10:hget g H=some (.tip (tpe sz l.length) l.length)) (hH:O7 (some (hset g (.tip (tpe sz x.length) x.length) H))=some H1)
  (h:Os env orc ops rest (M5 o.dst (.slice (.tag g) x.length (cl x)) fr) H1 K):Os env orc ops (o::rest) fr H K:=by
 have hp:J4 o.op=false:=by rw[ho];rfl
 obtain⟨g1,rfl⟩:=b0s hx
 rw[a0E,Option.some.injEq]at hH
 subst hH h6 h7
 have hw2:tpe ye.size l.length=0∨tpe ye.size l.length=ye.size:=by cases l.length<;>simp[tpe]
 have ht2:tpe ye.size (l++m).length=ye.size:=by
  rw[List.length_append]
  cases m with
  | nil=>simp at hm
  | cons z m=>rw[List.length_cons,<-Nat.add_assoc];rfl
 refine a0y hw hp ?_ h
 unfold M4
 rw[ho]
 simp only[ha,ht,hs,hv]
 rw[b5u h1 h2 h3 h4 h5 h9 hm h10 hw2 h8 (he.length l).symm g1,ht2,he.append,List.length_append]
theorem c0I {α:Type}{sz:Nat}{c1:α->List V}{cl:List α->List V}(he:a03 sz c1 cl){l m x:List α}{bytes:Nat}{args:Array Operand}{at_:Array TypeId}{a b:Operand}{t xt e g:Nat}{y yx ye:Ty}{v:V}(hx:app bytes l m=some x)
  (hw:u6 ops o fr=some true) (ho:o.op=.call ⟨.builtin .append,args,at_⟩)
  (ha:args.toList=[a,b]) (ht:at_.toList=[t,xt]) (hs:ev fr a=some (.slice (.tag g) l.length (cl l))) (hv:ev fr b=some v)
  (h1:I4 t env.T=some y) (h2:I4 xt env.T=some yx) (h3:y.sh=.slice e) (h4:a4D yx.sh=true) (h5:I4 e env.T=some ye) (h6:ye.size=sz) (h7:ye.bytes=bytes) (h8:Nat.beq sz 0=false)
  (h9:a2L env.T e v H=some (m.length,cl m)) (h10:hget g H=some (.tip (tpe sz l.length) l.length)) (hS:O7 (some (hset g (.tip (tpe sz l.length) l.length) H))=some H) (hH:O7 (some (hset g (.tip (tpe sz x.length) x.length) H))=some H1)
  (h:Os env orc ops rest (M5 o.dst (.slice (.tag g) x.length (cl x)) fr) H1 K):Os env orc ops (o::rest) fr H K:=by
 by_cases hm:m=[]
 ·subst hm
  have hp:J4 o.op=false:=by rw[ho];rfl
  obtain⟨g1,rfl⟩:=b0s hx
  rw[a0E,Option.some.injEq]at hH hS
  rw[List.append_nil]at hH h
  rw[hS]at hH
  subst hH
  refine a0y hw hp ?_ h
  unfold M4
  rw[ho]
  simp only[ha,ht,hs,hv]
  unfold a2u
  simp only[h1,h2,h3,h4,h5,h9,List.length_nil,Nat.beq]
 ·refine b9s he hx hw ho ha ht hs hv h1 h2 h3 h4 h5 h6 h7 h8 h9 ?_ h10 hH h
  cases m with
  | nil=>exact absurd rfl hm
  | cons z m=>rfl
theorem c0J {α:Type}{sz:Nat}{c1:α->List V}{cl:List α->List V}(he:a03 sz c1 cl){l m x:List α}{bytes:Nat}{args:Array Operand}{at_:Array TypeId}{a b:Operand}{t xt e:Nat}{ow:Own}{y yx ye:Ty}{v:V}(hx:app bytes l m=some x)
  (hw:u6 ops o fr=some true) (ho:o.op=.call ⟨.builtin .append,args,at_⟩)
  (ha:args.toList=[a,b]) (ht:at_.toList=[t,xt]) (how:ow=.nil∨ow=.full) (hs:ev fr a=some (.slice ow l.length (cl l))) (hv:ev fr b=some v)
  (h1:I4 t env.T=some y) (h2:I4 xt env.T=some yx) (h3:y.sh=.slice e) (h4:a4D yx.sh=true) (h5:I4 e env.T=some ye) (h6:ye.size=sz) (h7:ye.bytes=bytes) (h8:Nat.beq sz 0=false)
  (h9:a2L env.T e v H=some (m.length,cl m)) (hm:Nat.beq m.length 0=false) (h10:hget (newName o) H=none) (hH:O7 (some (hset (newName o) (.tip (tpe sz x.length) x.length) H))=some H1)
  (h:Os env orc ops rest (M5 o.dst (.slice (.tag (newName o)) x.length (cl x)) fr) H1 K):Os env orc ops (o::rest) fr H K:=by
 have hp:J4 o.op=false:=by rw[ho];rfl
 obtain⟨g1,rfl⟩:=b0s hx
 rw[a0E,Option.some.injEq]at hH
 subst hH h6 h7
 have ht2:tpe ye.size (l++m).length=ye.size:=by
  rw[List.length_append]
  cases m with
  | nil=>simp at hm
  | cons z m=>rw[List.length_cons,<-Nat.add_assoc];rfl
 refine a0y hw hp ?_ h
 unfold M4
 rw[ho]
 simp only[ha,ht,hs,hv]
 unfold a2u
 have h11:Nat.beq ye.size 0=false:=h8
 rw[List.length_append]at ht2
 rcases how with rfl|rfl <;>
  simp only[h1,h2,h3,h4,h5,h9,hm,h10,h11,a1u (he.length l).symm,a8E g1,Bool.not_false,Bool.and_self,gd,ht2,he.append,List.length_append]
theorem os_appF {α:Type}{sz:Nat}{c1:α->List V}{cl:List α->List V}(he:a03 sz c1 cl){l m x:List α}{bytes:Nat}{args:Array Operand}{at_:Array TypeId}{a b:Operand}{t xt e:Nat}{ow:Own}{y yx ye:Ty}{v:V}(hx:app bytes l m=some x)
  (hw:u6 ops o fr=some true) (ho:o.op=.call ⟨.builtin .append,args,at_⟩)
  (ha:args.toList=[a,b]) (ht:at_.toList=[t,xt]) (how:ow=.nil/\l=[]∨ow=.full/\leN 1 l.length=true) (hs:ev fr a=some (.slice ow l.length (cl l))) (hv:ev fr b=some v)
  (h1:I4 t env.T=some y) (h2:I4 xt env.T=some yx) (h3:y.sh=.slice e) (h4:a4D yx.sh=true) (h5:I4 e env.T=some ye) (h6:ye.size=sz) (h7:ye.bytes=bytes) (h8:Nat.beq sz 0=false)
  (h9:a2L env.T e v H=some (m.length,cl m)) (h10:hget (newName o) H=none) (hH:O7 (some (hset (newName o) (.tip (tpe sz x.length) x.length) H))=some H1)
  (h:Os env orc ops rest (M5 o.dst (.slice (.tag (newName o)) x.length (cl x)) fr) H1 K):Os env orc ops (o::rest) fr H K:=by
 by_cases hm:m=[]
 ·subst hm
  have hp:J4 o.op=false:=by rw[ho];rfl
  obtain⟨g1,rfl⟩:=b0s hx
  rw[a0E,Option.some.injEq]at hH
  rw[List.append_nil]at hH h
  subst hH h6
  refine a0y hw hp ?_ h
  unfold M4
  rw[ho]
  simp only[ha,ht,hs,hv]
  unfold a2u
  have h0:cl []=[]:=he.nil
  rcases how with⟨rfl,rfl⟩ |⟨rfl,h11⟩
  ·simp only[h1,h2,h3,h4,h5,h9,List.length_nil,Nat.beq,h10,h8,Bool.not_false,gd,h0,tpe]
  ·have h12:=a2V h11
   have h13:tpe ye.size l.length=ye.size:=by
    cases hl:l.length with
    | zero=>omega
    | succ q=>rfl
   simp only[h1,h2,h3,h4,h5,h9,List.length_nil,Nat.beq,h10,h8,h11,Bool.not_false,Bool.and_self,gd,h13]
 ·have hw2:ow=.nil∨ow=.full:=how.elim (fun h=>.inl h.1) fun h=>.inr h.1
  refine c0J he hx hw ho ha ht hw2 hs hv h1 h2 h3 h4 h5 h6 h7 h8 h9 ?_ h10 hH h
  cases m with
  | nil=>exact absurd rfl hm
  | cons z m=>rfl
theorem b7E {x:Operand}{t:Nat}{v:V}(hw:u6 ops o fr=some true)(ho:o.op=.panic x)(hx:ev fr x=some (.iface t v))(h:K (.panic (.iface t v),fr,H)):Os env orc ops (o::rest) fr H K:=by
 have hp:J4 o.op=false:=by rw[ho];rfl
 refine⟨_,?_,h⟩
 simp only[H7,hw,J6,hp]
 unfold M4
 rw[ho]
 simp only[hx]
def segK (env:Env)(f nr id:Nat)(F:Fr)(G:Hp)(K:Res->Prop):Res->Prop
 |(.normal,fr,H)=>normal env f nr (id+100000) fr H=some (F,G)
 | r=>K r
theorem ev_seg {a b:Code}(F:Fr)(G:Hp)(hc:env.cut f (a1g b)=true)(hA:Ev env orc f nr a fr H (segK env f nr (a1g b) F G K))(hB:Ev env orc f nr b F G K):Ev env orc f nr (.seq a b) fr H K:=by
 refine b5F hc ?_
 obtain⟨⟨e,fr1,H1⟩,h1,h2⟩:=hA
 refine⟨_,h1,?_⟩
 cases e with
 | normal=>exact⟨_,_,h2,hB⟩
 | _=>exact h2
def segL {α ρ:Type}(env:Env)(f nr id:Nat)(y:Lr α ρ)(F:α->Fr)(G:α->Hp)(KR:ρ->Res->Prop):Res->Prop
 |(.normal,fr,H)=>∃x,y=.brk x/\normal env f nr (id+100000) fr H=some (F x,G x)
 | r=>∃z,y=.out z/\KR z r
theorem c0j {α ρ:Type}{a b:Code}{KR:ρ->Res->Prop}(y:Lr α ρ)(F:α->Fr)(G:α->Hp)(hc:env.cut f (a1g b)=true)(hA:Ev env orc f nr a fr H (segL env f nr (a1g b) y F G KR))
  (hB:∀x,y=.brk x->Ev env orc f nr b (F x) (G x) K) (hR:∀z r,y=.out z->KR z r->r.1 ≠ .normal->K r):Ev env orc f nr (.seq a b) fr H K:=by
 refine b5F hc ?_
 obtain⟨⟨e,fr1,H1⟩,h1,h2⟩:=hA
 refine⟨_,h1,?_⟩
 cases e with
 | normal=>obtain⟨x,h3,h4⟩:=h2;exact⟨_,_,h4,hB x h3⟩
 | ret=>obtain⟨z,h3,h4⟩:=h2;exact hR z _ h3 h4 (fun h=>by cases h)
 | exit i=>obtain⟨z,h3,h4⟩:=h2;exact hR z _ h3 h4 (fun h=>by cases h)
 | panic v=>obtain⟨z,h3,h4⟩:=h2;exact hR z _ h3 h4 (fun h=>by cases h)
def OsP (env:Env)(orc:Orc)(L sl:List Nat)(ops:Array Oper)(l:List Oper)(fr:Fr)(H:Hp)(K:Res->Prop):Prop:=∃r,I5 env orc L sl ops l fr H=some r/\K r
def onceK (env:Env)(orc:Orc)(L sl:List Nat)(ops:Array Oper)(l:List Oper)(K:Res->Prop):Res->Prop
 |(.normal,fr,H)=>OsP env orc L sl ops l fr H K
 | r=>K r
theorem osP_nil {L sl:List Nat}(h:K (.normal,fr,H)):OsP env orc L sl ops [] fr H K:=⟨_,rfl,h⟩
theorem b3r {L sl:List Nat}(hw:u6 ops o fr=some false)(h:OsP env orc L sl ops rest (M5 o.dst (.tuple []) fr) H K):OsP env orc L sl ops (o::rest) fr H K:=by
 obtain⟨r,h1,h2⟩:=h;exact⟨r,by simp only[I5,hw];exact h1,h2⟩
theorem b7B {L sl:List Nat}(hp:a1t env L sl fr H o=true)(h:Os env orc ops [o] fr H (onceK env orc L sl ops rest K)):OsP env orc L sl ops (o::rest) fr H K:=by
 obtain⟨r,h1,h2⟩:=h
 simp only[H7]at h1
 cases hw:u6 ops o fr with
 | none=>rw[hw]at h1;cases h1
 | some b =>
  rw[hw]at h1
  cases b with
  | false =>
   simp only[Option.some.injEq]at h1
   subst h1
   exact b3r hw h2
  | true =>
   simp only at h1
   cases hs:J6 env orc fr H o with
   | none=>rw[hs]at h1;cases h1
   | some x =>
    rw[hs]at h1
    cases x with
    | val v H1 =>
     simp only[Option.some.injEq]at h1
     subst h1
     obtain⟨r,h3,h4⟩:=h2
     exact⟨r,by simp only[I5,hw,hp,hs];exact h3,h4⟩
    | pan v H1 =>
     simp only[Option.some.injEq]at h1
     subst h1
     exact⟨_,by simp only[I5,hw,hp,hs],h2⟩
def sepK (nr:Nat)(ops:Array Oper)(L sl:List Nat)(K:Res->Prop):Res->Prop
 |(.normal,fr,H)=>a4V sl fr=some L/\K (.normal,fr,H)
 |(.panic v,fr,H)=>a4V sl fr=some L/\b5t (a2Y ops.toList) H=true /\ ∃v' H',finish nr v H=some (v',H')/\K (.panic v',[],H')
 | _=>False
theorem b82 {id:Nat}{d:Bool}{S sl:List Nat}(L:List Nat)(hs:a9Q env f id d=some (S,sl))(h:OsP env orc L sl ops (a4C ops S) fr H (sepK nr ops L sl K)):Ev env orc f nr (.region id ops d) fr H K:=by
 obtain⟨⟨e,fr1,H1⟩,h1,h2⟩:=h
 have h3:=a4k h1
 unfold Ev
 simp only[u7,hs]
 cases e with
 | normal =>
  obtain⟨g1,g2⟩:=h2
  exact⟨_,by simp only[a2O,h3,g1,h1],g2⟩
 | panic v =>
  obtain⟨g1,g2,v',H',g3,g4⟩:=h2
  exact⟨_,by simp only[a2O,h3,g1,h1,g2,g3],g4⟩
 | ret=>exact h2.elim
 | exit i=>exact h2.elim
theorem os_loadA {t:Nat}{a:Operand}{cs c r:List V}{y:Ty}(hw:u6 ops o fr=some true)(ho:o.op=.load t a)(ha:ev fr a=some (.cptr cs))(hs:cs=c++r)(h1:I4 t env.T=some y)(h2:Y4 y.sh=true)(h3:c.length=y.size)
  (h:Os env orc ops rest (M5 o.dst (.agg c) fr) H K):Os env orc ops (o::rest) fr H K:=by
 refine Y6 hw ho ha ?_ h
 subst hs
 have:leN c.length (c++r).length=true:=a8E (by rw[List.length_append];omega)
 simp only[a1Q,h1,h2,<-h3,this,gd,List.take_left]
theorem b7C {g:Nat}{f:Operand}{args:Array Operand}{at_:Array TypeId}{l a c:List V}{v:V}(hw:u6 ops o fr=some true)(ho:o.op=.call ⟨.value f,args,at_⟩)(hf:ev fr f=some (.func (.func g) a c))
  (hl:evL fr args.toList=some l) (hc:a0W env orc (newName o) g (a++l++c) H=some (.val v H1))
  (h:Os env orc ops rest (M5 o.dst v fr) H1 K):Os env orc ops (o::rest) fr H K:=by
 have hp:J4 o.op=false:=by rw[ho];rfl
 refine a0y hw hp (v:=v) (H1:=H1) ?_ h
 unfold M4
 rw[ho]
 simp only[hf,hl,hc]
theorem c1w {g:Nat}{f:Operand}{args:Array Operand}{at_:Array TypeId}{l a c:List V}{v:V}(hw:u6 ops o fr=some true)(ho:o.op=.call ⟨.value f,args,at_⟩)(hf:ev fr f=some (.func (.func g) a c))
  (hl:evL fr args.toList=some l) (hc:a0W env orc (newName o) g (a++l++c) H=some (.pan v H1))
  (h:K (.panic v,fr,H1)):Os env orc ops (o::rest) fr H K:=by
 have hp:J4 o.op=false:=by rw[ho];rfl
 refine⟨_,?_,h⟩
 simp only[H7,hw,J6,hp]
 unfold M4
 rw[ho]
 simp only[hf,hl,hc]
theorem b7G {c a b:Operand}{x:Bool}{v:V}(hw:u6 ops o fr=some true)(ho:o.op=.pick c a b)(hc:ev fr c=some (.bool x))(hx:x=true)(hv:a1G (ev fr a)=some v)
  (h:Os env orc ops rest (M5 o.dst v fr) H K):Os env orc ops (o::rest) fr H K:=by
 have hp:J4 o.op=true:=by rw[ho];rfl
 rw[b1c]at hv
 refine a2i hw hp ?_ h
 rw[ho]
 simp only[O8,hc,hx,hv]
theorem b7F {c a b:Operand}{x:Bool}{v:V}(hw:u6 ops o fr=some true)(ho:o.op=.pick c a b)(hc:ev fr c=some (.bool x))(hx:x=false)(hv:a1G (ev fr b)=some v)
  (h:Os env orc ops rest (M5 o.dst v fr) H K):Os env orc ops (o::rest) fr H K:=by
 have hp:J4 o.op=true:=by rw[ho];rfl
 rw[b1c]at hv
 refine a2i hw hp ?_ h
 rw[ho]
 simp only[O8,hc,hx,hv]
theorem b0Y:∀l:List Int,a2t (clI .u8 l)=some (l.map fun n=>UInt8.ofNat n.toNat)
 | []=>rfl
 | n::r=>by
  have:=b0Y r
  simp only[clI,List.map_cons]at this ⊢
  simp only[a2t,this]
theorem b7H {l:List Int}{ow:Own}{t d e:Nat}{a:Operand}{y z ye:Ty}(hw:u6 ops o fr=some true)(ho:o.op=.convert t d a)(ha:ev fr a=some (.slice ow l.length (clI .u8 l)))
  (h1:I4 t env.T=some y) (h2:I4 d env.T=some z) (h3:z.sh=.string) (h4:y.sh=.slice e) (h5:I4 e env.T=some ye) (h6:ye.sh=.int .u8)
  (h:Os env orc ops rest (M5 o.dst (.str (bytesOf l)) fr) H K):Os env orc ops (o::rest) fr H K:=by
 have hp:J4 o.op=true:=by rw[ho];rfl
 refine a2i hw hp ?_ h
 rw[ho]
 have h7:eqN l.length (l.map fun n=>UInt8.ofNat n.toNat).length=true:=a1u (by rw[List.length_map])
 simp only[O8,ha,b0Z,h1,h2,h3,h4,h5,h6,b0Y,h7,gd,bytesOf]
theorem b7D {s:Str}{t d e:Nat}{a:Operand}{y z ye:Ty}(hw:u6 ops o fr=some true)(ho:o.op=.convert t d a)(ha:ev fr a=some (.str s))
  (h1:I4 t env.T=some y) (h2:I4 d env.T=some z) (h3:y.sh=.string) (h4:z.sh=.slice e) (h5:I4 e env.T=some ye) (h6:ye.sh=.int .u8)
  (h:Os env orc ops rest (M5 o.dst (.slice .sealed (b9a s).length (clI .u8 (b9a s))) fr) H K):Os env orc ops (o::rest) fr H K:=by
 have hp:J4 o.op=true:=by rw[ho];rfl
 refine a2i hw hp ?_ h
 rw[ho]
 simp only[O8,ha,b0Z,h1,h2,h3,h4,h5,h6,V6,b9a,clI,List.length_map,List.map_map]
 rfl
@[reducible] def w64 (x:Int):Int:=IntKind.wrap .i64 x
end
end Go.Vm
namespace Go.Vm
@[reducible] def V.i (x:Int):V:=.int .i64 x
@[reducible] def V.sl {α:Type} (f:List α->List V) (x:List α):V:=.slice .sealed (List.length x) (f x)
@[reducible] def V.sf {α:Type} (f:List α->List V) (x:List α):V:=.slice .full (List.length x) (f x)
@[reducible] def V.st {α:Type} (g:Nat) (f:List α->List V) (x:List α):V:=.slice (.tag g) (List.length x) (f x)
@[reducible] def c0 (a:Int) (b:List UInt8) (c d:Int) (e:List UInt8) (f:Int) (g h i:V) (j:Int):List V:=[.int .i64 a,.str b,.int .i64 c,.int .i64 d,.str e,.int .i64 f,g,h,i,.int .i64 j]
@[reducible] def hR {α:Type} (f:List α->List V) (l:List α) (a b c:Int):Hp:=[(0,.row [.slice .sealed (List.length l) (f l),.int .i64 a,.int .i64 b,.int .i64 c])]
@[reducible] def hP {α:Type} (f:List α->List V) (l:List α) (a b:Int):Hp:=[(0,.row [.slice .sealed (List.length l) (f l),.int .i64 a,.int .i64 b])]
section
variable {env:Env} {orc:Orc} {f nr:Nat} {ops:Array Oper} {o:Oper} {rest rest':List Oper} {fr fr1 fr':Fr} {H H1 H':Hp} {r:Option Res} {v:V} {K:Res->Prop}
def auto (env:Env)(orc:Orc)(ops:Array Oper):Nat->List Oper->Fr->Hp->Option (List Oper×Fr×Hp)
 | 0,rest,fr,H=>some (rest,fr,H)
 | _+1,[],fr,H=>none
 | k+1,o::rest,fr,H=>match u6 ops o fr with
  | none=>none
  | some false=>auto env orc ops k rest (M5 o.dst (.tuple []) fr) H
  | some true=>match J4 o.op with
   | true=>match a1G (O8 env.T fr o.op)with
    | some v=>auto env orc ops k rest (M5 o.dst v fr) H
    | none=>none
   | false=>match b2V (M4 env orc fr H o)with
    | some (.val v H1)=>auto env orc ops k rest (M5 o.dst v fr) H1
    | _=>none
theorem oA:∀(k:Nat) {rest:List Oper} {fr:Fr} {H:Hp} (h:auto env orc ops k rest fr H=some (rest',fr',H')) (h2:Os env orc ops rest' fr' H' K),Os env orc ops rest fr H K
 | 0,rest,fr,H,h,h2=>by cases h;exact h2
 | k+1,[],fr,H,h,h2=>by cases h
 | k+1,o::rest,fr,H,h,h2=>by
  simp only[auto]at h
  split at h
  ·cases h
  ·rename_i hw
   exact b51 hw (oA k h h2)
  ·rename_i hw
   split at h
   ·rename_i hp
    split at h
    ·rename_i v hv
     exact j6 hw hp hv (oA k h h2)
    ·cases h
   ·rename_i hp
    split at h
    ·rename_i v H1 hv
     exact b50 hw hp hv (oA k h h2)
    ·cases h
theorem oV {g:Nat}{args:Array Operand}{at_:Array TypeId}{l ac:List V}{ns:List Nat}{H3 H4 Hc:Hp}{v v4:V}(hc:orc (.call g ac) Hc=some (.ret v H3))(h:Os env orc ops rest (M5 o.dst v4 fr) H4 K)
  (hw:u6 ops o fr=some true:=by exact rfl) (ho:o.op=.call ⟨.value (.func g),args,at_⟩:=by exact rfl)
  (hl:evL fr args.toList=some l:=by exact rfl) (hq:(env.quiet g||env.look g)=false:=by exact rfl) (hp:a4F env g l H=some (ns,ac,Hc):=by exact rfl) (h7:a3a (a0e (H6 ns (newName o)) dep v)=some v4:=by exact rfl)
  (h8:O7 (a0i (H6 ns (newName o)) H3 H)=some H4:=by exact rfl) (h9:a1S H H3 (newName o) ns.length=true:=by exact rfl):Os env orc ops (o::rest) fr H K :=
 a9i hw ho hl (a2Z hq hp hc h7 h8 h9) h
theorem oB (k:Nat){rest:List Oper}{fr:Fr}{H:Hp}(h:auto env orc ops k rest fr H=some ([],fr',H'))(h2:K (.normal,fr',H')):Os env orc ops rest fr H K:=oA k h (D7 h2)
theorem oD (h:Os env orc ops rest (M5 o.dst v fr) H K)(hw:u6 ops o fr=some true:=by exact rfl)(hp:J4 o.op=true:=by exact rfl)(hv:a3a (O8 env.T fr o.op)=some v:=by exact rfl):Os env orc ops (o::rest) fr H K:=b3s hw hp hv h
theorem eSG {id:Nat}{d:Bool}{b:Code}(h:Os env orc ops ops.toList fr H (regK d (thenK env orc f nr b K)))(hc:env.cut f (a1g b)=false:=by rfl)(hb:(d&&env.loose f)=false:=by rfl)(hs:a9Q env f id d=none:=by rfl):Ev env orc f nr (.seq (.region id ops d) b) fr H K:=C8 (o6 h hb hs) hc
end
end Go.Vm
namespace Go.Vm
section
variable {κ β:Type}
def b2L (ek:κ->V)(eb:β->V):List (κ×β)->List (V×V)
 | []=>[]
 |(k,b)::r=>(ek k,eb b)::b2L ek eb r
def mget (q:κ->κ->Bool)(i:κ):List (κ×β)->Option β
 | []=>none
 |(k,b)::r=>match q i k with
  | true=>some b
  | false=>mget q i r
def mput (q:κ->κ->Bool)(i:κ)(b:β):List (κ×β)->List (κ×β)
 | []=>[(i,b)]
 |(k,x)::r=>match q i k with
  | true=>(i,b)::r
  | false=>(k,x)::mput q i b r
theorem b4E {ek:κ->V}{eb:β->V}{q:κ->κ->Bool}(hq:∀a b,a8V (ek a) (ek b)=some (q a b))(i:κ):∀m:List (κ×β),b2U (ek i) (b2L ek eb m)=some ((mget q i m).map eb)
 | []=>rfl
 |(k,b)::r=>by
  simp only[b2L,b2U,mget,hq]
  cases q i k with
  | true=>rfl
  | false=>exact b4E hq i r
theorem b3D {ek:κ->V}{eb:β->V}{q:κ->κ->Bool}(hq:∀a b,a8V (ek a) (ek b)=some (q a b))(i:κ)(x:β):∀m:List (κ×β),putM (ek i) (eb x) (b2L ek eb m)=some (b2L ek eb (mput q i x m))
 | []=>rfl
 |(k,b)::r=>by
  simp only[b2L,putM,mput,hq]
  cases q i k with
  | true=>rfl
  | false =>
   simp only[b3D hq i x r]
   rfl
theorem a10 (k:IntKind)(a b:Int):a8V (.int k a) (.int k b)=some (eqB a b):=by simp[a8V]
end
section
variable {env:Env} {orc:Orc} {ops:Array Oper} {rest:List Oper} {fr:Fr} {H H1:Hp} {K:Res->Prop} {o:Oper}
theorem c0K {κ β:Type}{q:κ->κ->Bool}{ek:κ->V}{eb:β->V}(hq:∀a b,a8V (ek a) (ek b)=some (q a b)){m:List (κ×β)}{i:κ}{b:β}{t kt et r:Nat}{x ki kv:Operand}{y yk:Ty}
  (hw:u6 ops o fr=some true) (ho:o.op=.mapUpdate t x ki kv) (hx:ev fr x=some (.map r)) (hi:ev fr ki=some (ek i)) (hv:ev fr kv=some (eb b)) (h1:I4 t env.T=some y) (h2:y.sh=.map kt et) (h3:I4 kt env.T=some yk)
  (h4:a9M yk.sh (ek i)=true) (h5:a8S (eb b)=some (eb b)) (h6:hget r H=some (.mp (b2L ek eb m))) (hH:O7 (some (hset r (.mp (b2L ek eb (mput q i b m))) H))=some H1)
  (h:Os env orc ops rest (M5 o.dst .undef fr) H1 K):Os env orc ops (o::rest) fr H K:=by
 have hp:J4 o.op=false:=by rw[ho];rfl
 rw[a0E,Option.some.injEq]at hH
 subst hH
 refine a0y hw hp (v:=.undef) ?_ h
 unfold M4
 rw[ho]
 simp only[hx,hi,hv,a4b,h1,h2,h3,h4,h5,h6,b3D hq]
theorem b2o {κ β:Type}{q:κ->κ->Bool}{ek:κ->V}{eb:β->V}(hq:∀a b,a8V (ek a) (ek b)=some (q a b)){m:List (κ×β)}{i:κ}{b:β}{t kt et r:Nat}{x ki kv:Operand}{y yk:Ty}
  (hw:u6 ops o fr=some true) (ho:o.op=.insert t x ki kv) (hx:ev fr x=some (.map r)) (hi:ev fr ki=some (ek i)) (hv:ev fr kv=some (eb b)) (h1:I4 t env.T=some y) (h2:y.sh=.map kt et) (h3:I4 kt env.T=some yk)
  (h4:a9M yk.sh (ek i)=true) (h5:a8S (eb b)=some (eb b)) (h6:hget r H=some (.mp (b2L ek eb m))) (hH:O7 (some (hset r (.mp (b2L ek eb (mput q i b m))) H))=some H1)
  (h:Os env orc ops rest (M5 o.dst .undef fr) H1 K):Os env orc ops (o::rest) fr H K:=by
 have hp:J4 o.op=false:=by rw[ho];rfl
 rw[a0E,Option.some.injEq]at hH
 subst hH
 refine a0y hw hp (v:=.undef) ?_ h
 unfold M4
 rw[ho]
 simp only[hx,hi,hv,a4b,h1,h2,h3,h4,h5,h6,b3D hq]
theorem b2p {κ β:Type}{q:κ->κ->Bool}{ek:κ->V}{eb:β->V}(hq:∀a b,a8V (ek a) (ek b)=some (q a b)){m:List (κ×β)}{i:κ}{d:β}{t kt et r:Nat}{x ki:Operand}{y yk ye:Ty}
  (hw:u6 ops o fr=some true) (ho:o.op=.lookup t x ki false) (hx:ev fr x=some (.map r)) (hi:ev fr ki=some (ek i)) (h1:I4 t env.T=some y) (h2:y.sh=.map kt et) (h3:I4 kt env.T=some yk) (h3':I4 et env.T=some ye)
  (h4:a9M yk.sh (ek i)=true) (h5:zeroV ye=eb d) (h6:hget r H=some (.mp (b2L ek eb m)))
  (h:Os env orc ops rest (M5 o.dst (eb ((mget q i m).getD d)) fr) H K):Os env orc ops (o::rest) fr H K:=by
 have hp:J4 o.op=false:=by rw[ho];rfl
 refine a0y hw hp (v:=eb ((mget q i m).getD d)) (H1:=H) ?_ h
 unfold M4
 rw[ho]
 simp only[hx,hi,b2v,h1,h2,h3,h3',h4,h6,b4E hq]
 cases mget q i m with
 | none=>simp only[Option.map_none,Option.getD_none,h5]
 | some b=>simp only[Option.map_some,Option.getD_some]
end
end Go.Vm
