/- Texts of ParseValid, joined. -/
import Derived.Test.YtimgnjbjbdgmaaaGreatDoorParseValidJ1
import Derived.Below
import Derived.KernelRfl
import Derived.Test.YtimgnjbjbdgmaaaGreatDoorProg
set_option maxRecDepth 100000
set_option maxHeartbeats 20000000
set_option linter.all false
namespace Go.Vm
variable {A B:Hp}
theorem eqOwn_eq:∀{a b:Own},eqOwn a b=true->a=b
 | .sealed,b,h=>by cases b<;>first|rfl|cases h
 | .full,b,h=>by cases b<;>first|rfl|cases h
 | .nil,b,h=>by cases b<;>first|rfl|cases h
 | .tag g,b,h=>by cases b<;>first |(rw[Nat.eq_of_beq_eq_true h])|cases h
theorem c5z (a:Own):eqOwn a a=true:=by cases a<;>simp[eqOwn]
mutual
theorem c1q:∀(a b:V),eqV a b=true->a=b
 | .undef,b,h=>by cases b<;>first|rfl |(simp[eqV]at h)
 | .bool x,b,h=>by cases b<;>simp[eqV]at h ⊢ <;> exact h
 | .int k n,b,h=>by cases b<;>simp[eqV]at h ⊢ <;> exact h
 | .str x,b,h=>by cases b<;>simp[eqV]at h ⊢ <;> exact h
 | .nilptr,b,h=>by cases b<;>first|rfl |(simp[eqV]at h)
 | .ptr r o,b,h=>by cases b<;>simp[eqV]at h ⊢ <;> exact h
 | .cptr cs,b,h=>by
  cases b<;>simp[eqV]at h ⊢;exact b1N cs _ h
 | .slice o n cs,b,h=>by
  cases b<;>simp[eqV]at h ⊢;exact⟨eqOwn_eq h.1.1,h.1.2,b1N cs _ h.2⟩
 | .rslice r o n w,b,h=>by
  cases b<;>simp[eqV]at h ⊢;exact⟨h.1.1.1,h.1.1.2,h.1.2,h.2⟩
 | .func f a c,b,h=>by
  cases b<;>simp[eqV]at h ⊢;exact⟨h.1.1,b1N a _ h.1.2,b1N c _ h.2⟩
 | .nilFunc,b,h=>by cases b<;>first|rfl |(simp[eqV]at h)
 | .iface t v,b,h=>by
  cases b<;>simp[eqV]at h ⊢;exact⟨h.1,c1q v _ h.2⟩
 | .nilIface,b,h=>by cases b<;>first|rfl |(simp[eqV]at h)
 | .opq,b,h=>by cases b<;>first|rfl |(simp[eqV]at h)
 | .map r,b,h=>by cases b<;>simp[eqV]at h ⊢ <;> exact h
 | .agg cs,b,h=>by
  cases b<;>simp[eqV]at h ⊢;exact b1N cs _ h
 | .tuple cs,b,h=>by
  cases b<;>simp[eqV]at h ⊢;exact b1N cs _ h
theorem b1N:∀(a b:List V),eqL a b=true->a=b
 | [],b,h=>by cases b<;>first|rfl |(simp[eqL]at h)
 | x::r,b,h=>by
  cases b<;>simp[eqL]at h ⊢;exact⟨c1q x _ h.1,b1N r _ h.2⟩
end
mutual
theorem b8c:∀a:V,eqV a a=true
 | .undef | .bool _ | .int _ _ | .str _ | .nilptr | .ptr _ _ | .rslice _ _ _ _ | .nilFunc | .nilIface | .opq | .map _=>by simp[eqV]
 | .cptr cs | .agg cs | .tuple cs=>by simp[eqV,b08 cs]
 | .slice o n cs=>by simp[eqV,c5z,b08 cs]
 | .func f a c=>by simp[eqV,b08 a,b08 c]
 | .iface t v=>by simp[eqV,b8c v]
theorem b08:∀a:List V,eqL a a=true
 | []=>by simp[eqL]
 | x::r=>by simp[eqL,b8c x,b08 r]
end
theorem c3g:∀a:List (V×V),eqE a a=true
 | []=>rfl
 |(a,b)::r=>by simp[eqE,b8c,c3g r]
theorem eqE_eq:∀{a b:List (V×V)},eqE a b=true->a=b
 | [],b,h=>by cases b<;>first|rfl |(simp[eqE]at h)
 |(x,y)::r,b,h=>by
  cases b with
  | nil=>simp[eqE]at h
  | cons z s =>
   simp only[eqE,Bool.and_eq_true]at h;rw[c1q x _ h.1.1,c1q y _ h.1.2,eqE_eq h.2]
theorem c3h (a:Option Obj):eqO a a=true:=by
 cases a with
 | none=>rfl
 | some x=>cases x<;>simp[eqO,b08,c3g]
theorem eqO_eq {a b:Option Obj}(h:eqO a b=true):a=b:=by
 cases a with
 | none=>cases b with
  | none=>rfl
  | some y=>cases y<;>simp[eqO]at h
 | some x=>cases b with
  | none=>cases x<;>simp[eqO]at h
  | some y =>
   cases x<;>cases y<;>simp[eqO]at h ⊢
   ·exact b1N _ _ h
   ·exact⟨h.1,b1N _ _ h.2⟩
   ·exact h
   exact eqE_eq h
theorem b8r {k:Nat}{o:Obj}:∀{H:Hp},hget k H=some o -> ∃p∈H,p.1=k
 |(j,x)::r,h=>by
  simp only[hget]at h;split at h
  ·simp_all
  obtain⟨p,h1,h2⟩:=b8r h;grind
theorem c8R (h:b9o A B=true)(k:Nat):hget k A=hget k B:=by
 simp only[b9o,Bool.and_eq_true,List.all_eq_true]at h;cases ha:hget k A with
 | some o =>
  obtain⟨p,h1,rfl⟩:=b8r ha;rw[<-ha];exact eqO_eq (h.1 p h1)
 | none=>cases hb:hget k B with
  | none=>rfl
  | some o =>
   obtain⟨p,h1,rfl⟩:=b8r hb;have:=eqO_eq (h.2 p h1);grind
theorem c4x (h:∀k,hget k A=hget k B):b9o A B=true:=by
 simp only[b9o,Bool.and_eq_true,List.all_eq_true];exact⟨fun p _=>by rw[h];exact c3h _,fun p _=>by rw[h];exact c3h _⟩
theorem c6w (A:Hp):b9o A A=true:=c4x fun _=>rfl
variable {b:Bool} {args:List V} {xs:List Value} {g k:Nat} {m:Nat->Bool} {r:OpR} {o:Oper} {v:V} {x:Value} {w':World}
section
variable {P:Program} {T:List (Nat×Ty)} {ρ ρ':Rho} {lab:Lab} {w:World} {H:Hp} {fr:Fr} {a:Act} {n nr:Nat} {env:Env} {orc:Orc}
theorem Rel.b9r (h:Rel ρ lab w v x):Rel ρ lab w (b9r v) x:=by
 cases v with
 | tuple vs =>
  cases h with
  | tuple _ xs h1 h2 =>
   have:=c6p     (fun _ _ h=>h.b5S) ⟨h1,h2⟩;exact .tuple _ xs this.1 this.2
 | _=>exact h.b5S
theorem L6.c0Y {vs:List V}(h:L6 ρ lab w vs xs):L6 ρ lab w (vs.map b1E) xs:=c6p (fun _ _ h=>h.b5S) h
theorem L6.c7W {m:Nat->Bool}:∀{vs:List V} {i:Nat} {xs:List Value},L6 ρ lab w vs xs->L6 ρ lab w (maskL m i vs) xs
 | [],_,_,h=>h
 | v::r,i,xs,h=>by
  obtain⟨x,xr,rfl,h1,h2⟩:=F8.1 h;refine F8.2 ⟨x,xr,rfl,?_,L6.c7W h2⟩;cases m i with
  | true=>omega
  | false=>exact h1.a9q
theorem L6.c7V {m:Nat->Bool}:∀{vs:List V} {i:Nat} {xs:List Value},L6 ρ lab w vs xs->L6 ρ lab w (maskG m i vs) xs
 | [],_,_,h=>h
 | v::r,i,xs,h=>by
  obtain⟨x,xr,rfl,h1,h2⟩:=F8.1 h;refine F8.2 ⟨x,xr,rfl,?_,L6.c7V h2⟩;cases m i with
  | true=>omega
  | false=>exact h1.b5S
theorem Rel.b8C {i:Nat}(h:Rel ρ lab w v x):Rel ρ lab w (b8C m i v) x:=by
 cases v with
 | agg cs=>cases h with|agg _ xs h1 h2=>have:=L6.c7W    (m:=m) (i:=i) ⟨h1,h2⟩;exact .agg _ xs this.1 this.2
 | _ =>
  unfold Vm.b8C;cases m i with
  | true=>exact h
  | false=>exact h.a9q
theorem L6.c7X {m:Nat->Bool}:∀{vs:List V} {i:Nat} {xs:List Value},L6 ρ lab w vs xs->L6 ρ lab w (maskT m i vs) xs
 | [],_,_,h=>h
 | v::r,i,xs,h=>by
  obtain⟨x,xr,rfl,h1,h2⟩:=F8.1 h;exact F8.2 ⟨x,xr,rfl,h1.b8C,L6.c7X h2⟩
theorem Rel.b8D (h:Rel ρ lab w v x):Rel ρ lab w (b8D m v) x:=by
 cases v with
 | tuple vs=>cases h with|tuple _ xs h1 h2=>have:=L6.c7X    (m:=m) (i:=0) ⟨h1,h2⟩;exact .tuple _ xs this.1 this.2
 | _=>exact h.b8C
theorem b6Q (v:V)(k:Nat):k <=(b6P v k).2:=by
 unfold b6P;split
 ·exact a7V _ _
 ·omega
 omega
theorem b40:∀(vs:List V) (k:Nat),k <=(b7d vs k).2
 | [],k=>Nat.le_refl _
 | v::r,k=>Nat.le_trans (b6Q v k) (b40 r _)
theorem c81 (v:V)(k:Nat):k <=(tagD v k).2:=by
 cases v with
 | tuple vs=>exact b40 vs k
 | _=>exact b6Q _ k
theorem Rel.b6P (hρ:ρ.le ρ')(hk:∀j,k<=j->j<(b6P v k).2->ρ'.hd j 0=some (none,0))(h:Rel ρ lab w v x):Rel ρ' lab w (b6P v k).1 x:=by
 unfold Vm.b6P at hk ⊢;split
 ·rename_i cs;cases h with
  | agg _ xs h1 h2=>have:=b1H     hρ cs k xs hk ⟨h1,h2⟩;exact .agg _ xs this.1 this.2
 ·exact h.tag zGr
 exact h.up hρ
theorem c4B (hρ:ρ.le ρ'):∀(vs:List V) (k:Nat) (xs:List Value),(∀j,k<=j->j<(b7d vs k).2->ρ'.hd j 0=some (none,0))->L6 ρ lab w vs xs->L6 ρ' lab w (b7d vs k).1 xs
 | [],k,xs,_,h=>h.up hρ
 | v::r,k,xs,hk,h=>by
  obtain⟨x,xr,rfl,h1,h2⟩:=F8.1 h;simp only[b7d]at hk ⊢;have m1:=b6Q v k;have m2:=b40 r (Vm.b6P v k).2;exact F8.2 ⟨x,xr,rfl,h1.b6P hρ zGr,c4B hρ r _ xr zGr h2⟩
theorem Rel.tagD (hρ:ρ.le ρ')(hk:∀j,k<=j->j<(tagD v k).2->ρ'.hd j 0=some (none,0))(h:Rel ρ lab w v x):Rel ρ' lab w (tagD v k).1 x:=by
 cases v with
 | tuple vs=>cases h with|tuple _ xs h1 h2=>have:=c4B     hρ vs k xs hk ⟨h1,h2⟩;exact .tuple _ xs this.1 this.2
 | _=>exact Rel.b6P hρ hk h
theorem c82 (hc:Canon 0 H)(hS:Sim ρ lab H w)(hv:Rel ρ lab w v x) :
  ∃ρ',ρ.le ρ'/\Sim ρ' lab (a6n b v H).2 w/\Rel ρ' lab w (a6n b v H).1 x/\Canon 0 (a6n b v H).2/\H.length <=(a6n b v H).2.length:=by
 cases b with
 | false=>exact⟨ρ,.refl _,hS,hv,hc,Nat.le_refl _⟩
 | true =>
  have hm:=c81 v H.length;obtain⟨ρn,k1,_,k3,k4,k5,k6⟩:=hS.b2A hc (G:=[])  trivial (fun j o h=>by cases h) zOm;simp only[List.length_nil,Nat.add_zero,List.append_nil]at k3 k4 k5 k6;have hmr:=a7o H (tagD v H.length).2;exact⟨ρn,k1,k4,hv.tagD k1 zGr,k5,k6⟩
theorem Sim.freeze (hS:Sim ρ lab H w){k e n cap:Nat}{wh:Bool}{cs:List V}{ao:Option Addr}(hk:hget k H=some (.grow e cs))(hv:Rel ρ lab w (.rslice k 0 n wh) (.slice ao n cap)) :
  ∃lab',Ext lab w lab' w/\Sim ρ lab' (hset k .gone H) w/\Rel ρ lab' w (.slice .sealed n (cs.take (n*e))) (.slice ao n cap):=by
 let lab':Lab:=fun b o=>match lab b o with
  | some (some j)=>if j=k then none else some (some j)
  | r=>r
 have e0:∀b o,lab b o=none->lab' b o=none:=fun b o h=>zGr;have e1:∀b o,lab' b o=some none↔lab b o=some none:=fun b o=>by
  grind
 have e2:∀b o,lab b o=some (some k)->lab' b o=none:=fun b o h=>zGr;have e3:∀b o j,lab b o=some (some j)->j≠k->lab' b o=some (some j):=fun b o j h hj=>zGr;have e4:∀b o j,lab' b o=some j -> ∃j,lab b o=some j:=fun b o j h=>by
  grind
 have hE:Ext lab w lab' w:=⟨Nat.le_refl _,rfl,rfl,rfl,fun b o _ h=>e0 b o h,e1,fun _ _ _ _=>⟨rfl,rfl⟩,fun _ _ _=>rfl⟩
 have hO:∀{j b o},j≠k->a4X lab w j b o->a4X lab' w j b o:=fun hj h=>⟨e3 _ _ _ h.lab hj,h.free,h.cell⟩
 have hg:∀{j o},hget j _=some o->o ≠ .gone->j≠k/\hget j H=some o:=fun{j o} h ho=>by
  by_cases hj:j=k
  ·subst hj;rw[F4,if_pos rfl]at h;cases h;exact absurd rfl ho
  rw[F4,if_neg hj]at h;exact⟨hj,h⟩
 refine⟨lab',hE,⟨hS.kp.ext hE,?_,?_,?_,?_,?_,?_,?_⟩,?_⟩
 ·intro j c h;obtain⟨hj,h⟩:=hg h zSi;obtain⟨b,o,xs,h1,h2,h3⟩:=hS.row j c h;exact⟨b,o,xs,h1,h2.ext hE (.refl _),fun i x hx=>⟨hO hj (h3 i x hx).1,(h3 i x hx).2⟩⟩
 ·intro j e c h;obtain⟨hj,h⟩:=hg h zSi;obtain⟨base,cc,xs,h1,h2,h3,h4,h5,h6,h7⟩:=hS.grow j e c h;exact⟨base,cc,xs,h1,h2.ext hE (.refl _),h3,h4,h5,h6,fun b o hb=>⟨fun i hi=>hO hj zGr,(h7 b o hb).2⟩⟩
 ·intro j e m h;obtain⟨hj,h⟩:=hg h zSi;obtain⟨a,c,h1,h2,h3,h4,h5⟩:=hS.tip j e m h;grind
 ·intro j es h;obtain⟨hj,h⟩:=hg h zSi;obtain⟨b,ms,c,h1,h2,h3⟩:=hS.mp j es h;exact⟨b,ms,c,h1,h2.ext hE (.refl _),fun o=>e3 _ _ _ (h3.lab o) hj,h3.blk⟩
 ·intro j m x h;obtain⟨e,m2,h1,h2⟩:=hS.hdom j m x h;refine⟨e,m2,?_,h2⟩;by_cases hj:j=k
  ·grind
  rw[F4,if_neg hj];omega
 ·intro j x h;by_cases hj:j=k
  ·subst hj;rw[F4,if_pos rfl];simp
  rw[F4,if_neg hj];exact hS.adom j x h
 ·intro b o j h;obtain⟨i,hi⟩:=e4 b o j h;exact hS.ldom b o i hi
 obtain⟨base,c,xs,h1,h2,h3,h4,h5,h6,h7⟩:=hS.grow k e cs hk;cases hv with
 | rslice _ _ _ _ base' g _ _ g1 g2 g3 g4 g5 =>
  rw[h1]at g1;cases g1;have hx:∀(i:Nat) (x:Value),(xs.take (n*e))[i]? = some x->xs[i]? = some x:=fun i x h=>by
   rw[List.getElem?_take]at h;split at h
   ·exact h
   cases h
  have hc:∀(i:Nat) (v:V),(cs.take (n*e))[i]? = some v->cs[i]? = some v:=fun i x h=>by
   rw[List.getElem?_take]at h;split at h
   ·exact h
   cases h
  cases hb:base with
  | none =>
   have hn0:n=0:=by
    rcases Nat.eq_zero_or_pos n with h|h
    ·exact h
    have:=g3 (.inl h);rw[hb]at this;exact absurd this (g5 h)
   subst hn0;refine .slice .sealed 0 _ [] 0 0 ao cap zSi g2 (fun h=>absurd h zOm) (fun _=>zSi) (fun i x h=>by simp at h) (fun i v x _ h=>by simp at h) trivial (fun x h=>by simp at h) (fun v h=>by simp at h)
  | some p =>
   obtain⟨b,o⟩:=p;obtain⟨h8,h9⟩:=h7 b o hb;refine .slice .sealed n _ (xs.take (n*e)) b o ao cap (by rw[List.length_take,List.length_take,h2.1]) g2 (fun hn=>?_) (fun h=>by subst h;simp) (fun i x h=>?_) (fun i v x hv h=>?_) trivial (fun x h=>h5 x (List.mem_of_mem_take h)) (fun v h=>h6 v (List.mem_of_mem_take h))
   ·have:=g3 (.inl hn);rw[hb]at this;simpa using this
   ·have hxs:=hx i x h;have hlt:i<xs.length:=by
     rcases Nat.lt_or_ge i xs.length with h|h
     ·exact h
     rw[List.getElem?_eq_none h]at hxs;cases hxs
    exact⟨e2 _ _ (h8 i (by rw[h2.1]at hlt;omega)).lab,h9 i x hxs⟩
   exact(h2.2 i v x (hc i v hv) (hx i x h)).ext hE (.refl _)
theorem c7f (hS:Sim ρ lab H w)(hv:Rel ρ lab w v x):∃lab',Ext lab w lab' w/\Sim ρ lab' (frz1 v H).2 w/\Rel ρ lab' w (frz1 v H).1 x:=by
 unfold frz1;split
 ·split
  ·rename_i hk;cases hv with
   | rslice _ _ _ _ base' g ao cap g1 g2 g3 g4 g5=>exact hS.freeze hk (.rslice _ _ _ _ base' g ao cap g1 g2 g3 g4 g5)
  exact⟨lab,.refl _ _,hS,hv⟩
 exact⟨lab,.refl _ _,hS,hv⟩
theorem c7i:∀(vs:List V) {lab:Lab} {H:Hp} {xs:List Value},Sim ρ lab H w->L6 ρ lab w vs xs -> ∃lab',Ext lab w lab' w/\Sim ρ lab' (b7g vs H).2 w/\L6 ρ lab' w (b7g vs H).1 xs
 | [],lab,H,xs,hS,h=>⟨lab,.refl _ _,hS,h⟩
 | v::r,lab,H,xs,hS,h=>by
  obtain⟨x,xr,rfl,h1,h2⟩:=F8.1 h;obtain⟨l1,k1,k2,k3⟩:=c7f hS h1;obtain⟨l2,m1,m2,m3⟩:=c7i r k2 (h2.ext k1 (.refl _));exact⟨l2,k1.trans m1,m2,F8.2 ⟨x,xr,rfl,k3.ext m1 (.refl _),m3⟩⟩
theorem c7g (hS:Sim ρ lab H w)(hv:Rel ρ lab w v x):∃lab',Ext lab w lab' w/\Sim ρ lab' (frzA v H).2 w/\Rel ρ lab' w (frzA v H).1 x:=by
 unfold frzA;split
 ·cases hv with
  | agg _ xs h1 h2 =>
   obtain⟨l,k1,k2,k3⟩:=c7i _ hS ⟨h1,h2⟩;exact⟨l,k1,k2,.agg _ xs k3.1 k3.2⟩
 exact c7f hS hv
theorem c7j:∀(vs:List V) {lab:Lab} {H:Hp} {xs:List Value},Sim ρ lab H w->L6 ρ lab w vs xs -> ∃lab',Ext lab w lab' w/\Sim ρ lab' (frzT vs H).2 w/\L6 ρ lab' w (frzT vs H).1 xs
 | [],lab,H,xs,hS,h=>⟨lab,.refl _ _,hS,h⟩
 | v::r,lab,H,xs,hS,h=>by
  obtain⟨x,xr,rfl,h1,h2⟩:=F8.1 h;obtain⟨l1,k1,k2,k3⟩:=c7g hS h1;obtain⟨l2,m1,m2,m3⟩:=c7j r k2 (h2.ext k1 (.refl _));exact⟨l2,k1.trans m1,m2,F8.2 ⟨x,xr,rfl,k3.ext m1 (.refl _),m3⟩⟩
theorem c7h (hS:Sim ρ lab H w)(hv:Rel ρ lab w v x):∃lab',Ext lab w lab' w/\Sim ρ lab' (b27 b v H).2 w/\Rel ρ lab' w (b27 b v H).1 x:=by
 cases b with
 | false=>exact⟨lab,.refl _ _,hS,hv⟩
 | true =>
  unfold b27;simp only;split
  ·cases hv with
   | tuple _ xs h1 h2 =>
    obtain⟨l,k1,k2,k3⟩:=c7j _ hS ⟨h1,h2⟩;exact⟨l,k1,k2,.tuple _ xs k3.1 k3.2⟩
  exact c7g hS hv
theorem b6w {f nr lp:Nat}{fr fr':Fr}{H':Hp}{arr:Array Value}(hS:Sim ρ lab H w)(hF:a6o ρ lab w fr arr)(h:normal env f nr lp fr H=some (fr',H')) :
  ∃ρ' lab',Sim ρ' lab' H' w/\Ext lab w lab' w/\a4B nr ρ ρ'/\a6o ρ' lab' w fr' arr:=by
 unfold normal at h;split at h
 ·exact b8V hS hF h
 rename_i s hs;simp only[b8g,b2w]at h;obtain⟨l1,k1,k2,k3⟩:=c7h  hS (hF s);have hF2:a6o ρ l1 w _ arr:=fun t=>by
  rw[b3X];split
  ·rename_i he;subst he;omega
  exact(hF t).ext k1 (.refl _)
 obtain⟨ρ',lab',g1,g2,g3,g4⟩:=b8V k2 hF2 h;exact⟨ρ',lab',g1,k1.trans g2,g3,g4⟩
theorem b1k {α β:Type}{f g:α->Option β}(hfg:∀a b,f a=some b->g a=some b):∀{l:List α} {r:List β},a2r f l=some r->a2r g l=some r
 | [],r,h=>h
 | a::t,r,h=>by
  simp only[a2r]at h ⊢;cases h1:f a with
  | none=>grind
  | some b =>
   rw[h1]at h;rw[hfg a b h1];cases h2:a2r f t with
   | none=>grind
   | some u=>rw[h2]at h;rw[b1k hfg h2];exact h
theorem c0Q {m m':Nat->Option Nat}(hm:∀k i,m k=some i->m' k=some i):∀(d:Nat) {v v':V},a2K m d v=some v'->a2K m' d v=some v'
 | 0,v,v',h=>by cases h
 | d+1,v,v',h=>by
  have ih:∀a b,a2K m d a=some b->a2K m' d a=some b:=fun a b h=>c0Q hm d h;cases v with
  | ptr r o=>simp only[a2K]at h ⊢;grind
  | rslice r o n w=>simp only[a2K]at h ⊢;grind
  | map r=>simp only[a2K]at h ⊢;grind
  | slice o n cs =>
   cases o with
   | tag g=>simp only[a2K]at h ⊢;grind
   | _=>exact h
  | func fn a b =>
   simp only[a2K]at h ⊢;split at h
   ·rename_i h1 h2;rw[b1k ih h1,b1k ih h2];exact h
   grind
  | iface t v =>
   simp only[a2K]at h ⊢;grind
  | agg cs =>
   simp only[a2K]at h ⊢;split at h
   ·rename_i h1;rw[b1k ih h1];exact h
   grind
  | tuple cs =>
   simp only[a2K]at h ⊢;split at h
   ·rename_i h1;rw[b1k ih h1];exact h
   grind
  | _=>exact h
def Done (ρ:Rho)(lab:Lab)(H:Hp)(w:World)(v:V)(H':Hp)(x:Value)(w':World):Prop :=∃ρ' lab',Sim ρ' lab' H' w'/\Ext lab w lab' w'/\a4B H.length ρ ρ'/\Rel ρ' lab' w' v x/\Canon 0 H'/\H.length<=H'.length
def a9T (ρ:Rho)(lab:Lab)(H:Hp)(w:World):Out->Ending->World->Prop | .ret v H',.returned x,w'=>Done ρ lab H w v H' x w' | .pan v H',.panicked ch,w'=>∃x,ch=[{v:=x,recovered:=false}]/\Done ρ lab H w v H' x w'|_,_,_=>False
structure b0G (P:Program)(orc:Orc):Prop where
 call:∀g args H out,orc (.call g args) H=some out -> ∀ρ lab w xs,Canon 0 H->Sim ρ lab H w->L6 ρ lab w args xs->Calls P g xs.toArray w (a9T ρ lab H w out)
 known:∀g args H out,orc (.call g args) H=some out -> ∃fn c,P.funcs[g]? = some fn/\(fn.name == "runtime.NumGoroutine")=false/\fn.body=some c
def Left (ρ:Rho)(lab:Lab)(w:World)(v:V)(H':Hp)(x:Value)(w':World):Prop:=∃ρ' lab',Sim ρ' lab' H' w'/\Ext lab w lab' w'/\ρ.le ρ'/\Rel ρ' lab' w' v x
def b7t (ρ:Rho)(lab:Lab)(w:World):OpR->Ending->World->Prop | .val v H',.returned x,w'=>Left ρ lab w v H' x w' | .pan v H',.panicked ch,w'=>∃x,ch=[{v:=x,recovered:=false}]/\Left ρ lab w v H' x w'|_,_,_=>False
theorem b7a (hO:b0G P orc)(hS:Sim ρ lab H w)(hx:L6 ρ lab w args xs)(h:a3B orc g args H=some r) :
  Calls P g xs.toArray w (b7t ρ lab w r) /\ ∃fn c,P.funcs[g]? = some fn/\(fn.name == "runtime.NumGoroutine")=false/\fn.body=some c:=by
 unfold a3B at h;split at h
 ·cases h
 rename_i X5 hm;split at h
 ·rename_i v ho;split at h
  ·rename_i v4 hv4;cases h;have hp:a8q H (idx · []) [] 0=some []:=rfl;have hS2:=hS.sub List.nodup_nil hp;have hi:(idx · [])=a7a:=rfl;have hx2 :=hx.c0Y.ren (b5P []) hm;refine⟨(hO.call _ _ _ _ ho (ρ.sub []) (lab.sub []) w xs trivial hS2 hx2).mono (fun e w' he=>?_),hO.known _ _ _ _ ho⟩;cases e with
   | returned x =>
    obtain⟨ρ3,lab3,S3,E3,R3,hv3,c4,hl⟩:=he;have hR:Ren a7a ρ3 ρ3 lab3 lab3:=⟨fun _ _ _ h=>(by cases h),fun _ _ _ _ h=>(by cases h),fun _ _ h=>h⟩
    have hR2:∀k i,a7a k=some i->L8 [] 0 k=some i:=fun _ _ h=>(by cases h)
    have hv6 :=c0Q hR2 dep hv4;exact b8G  hS List.nodup_nil zGr zOm (.refl _) S3 E3 R3 c4 hl hv3 hv6 rfl rfl
   | panicked ch=>exact he.elim
   | outgrown=>exact he.elim
  grind
 grind
theorem c3o {H3:Hp}{m:Nat}(h:a6x H H3 k m=true):b1P H k (H3.length-m)=true:=by
 simp only[a6x,Bool.and_eq_true]at h;grind
theorem b4I (hO:b0G P orc) (hS:Sim ρ lab H w) {k g:Nat} {args:List V} {xs:List Value} {r:OpR} (hx:L6 ρ lab w args xs) (h:a0e env orc k g args H = some r) :
    Calls P g xs.toArray w (b7t ρ lab w r) /\ ∃fn c,P.funcs[g]? = some fn/\(fn.name == "runtime.NumGoroutine")=false/\fn.body=some c:=by
  unfold a0e at h;split at h
  · exact b7a hO hS hx h
  simp only at h;have hx1:L6 ρ lab w (a5s (env.argTags g) (env.a9z g) args) xs:=by
    unfold a5s;split
    · exact hx.c7V
    exact hx.c0Y
  generalize a5s _ (env.a9z g) args=b9S at h hx1;generalize hns:reach H 99 _ []=ns at h;have hn:ns.Nodup:=by rw[<-hns];exact a7S _ _ _ _ List.nodup_nil
  split at h
  · rename_i X5 H2 hm hp
    obtain⟨c1,c2,c3⟩:=b1u hp;have hS2:=hS.sub hn hp;have hx2 :=hx1.ren (b5P ns) hm;have hk2:ns.length <=(a6h (env.argTags g) X5 ns.length).2:=by
      unfold a6h;split
      · exact a7V _ _
      omega
    have htg:∀ ρn:Rho,(ρ.sub ns).le ρn -> (∀ j,ns.length <= j -> j < (a6h (env.argTags g) X5 ns.length).2 -> ρn.hd j 0 = some (none,0)) ->
        L6 ρn (lab.sub ns) w (a6h (env.argTags g) X5 ns.length).1 xs:=by
      intro ρn hle hh;unfold a6h at hh ⊢;split at hh
      · exact b1H hle _ _ _ hh hx2
      exact hx2.up hle
    generalize a6h _ X5 ns.length=aa at h hk2 htg;have hmr:=a7o H2 aa.2;obtain⟨ρn,k1,_,k3,k4,k5,k6⟩:=hS2.b2A c1 (G:=[])  trivial (fun j o h=>by cases h) (by rw[List.length_nil,c2];omega);simp only[List.length_nil,Nat.add_zero,List.append_nil,c2]at k3 k4 k5 k6;generalize hHc:(X9 H2 aa.2).1++b4h ns.length _=Hc at h k4 k5 k6;have hx3:=htg ρn k1 zGr;obtain⟨ρf,f1,f2,f3,f4,f5⟩:=fullC_ok  k4 k5 hx3;have k4:=f2;have k5:=f3;have k1:=k1.trans f1;have hx3:=f4;have k6:=Nat.le_trans k6 f5;have hpick:∀i j:Nat,ns[i]? = some j->hget j H≠none:=fun i j hj=>by
      grind
    split at h
    · rename_i v H3 ho
      split at h
      · rename_i v4 H4 hv4 hm4
        split at h
        · rename_i hf
          cases h;refine⟨(hO.call _ _ _ _ ho ρf (lab.sub ns) w xs k5 k4 hx3).mono (fun e w' he=>?_),hO.known _ _ _ _ ho⟩;cases e with
          | returned x =>
            obtain⟨ρ3,lab3,S3,E3,R3,hv3,c4,hl⟩:=he;exact b8G hS hn hpick k6 k1 S3 E3 R3 c4 hl hv3 hv4 hm4 (c3o hf)
          | panicked ch=>exact he.elim
          | outgrown=>exact he.elim
        cases h
      cases h
    · rename_i v H3 ho
      split at h
      · rename_i v4 H4 hv4 hm4
        split at h
        · rename_i hf
          cases h;refine⟨(hO.call _ _ _ _ ho ρf (lab.sub ns) w xs k5 k4 hx3).mono (fun e w' he=>?_),hO.known _ _ _ _ ho⟩;cases e with
          | returned x=>exact he.elim
          | panicked ch =>
            obtain⟨x,hch,ρ3,lab3,S3,E3,R3,hv3,c4,hl⟩:=he;exact⟨x,hch,b8G hS hn hpick k6 k1 S3 E3 R3 c4 hl hv3 hv4 hm4 (c3o hf)⟩
          | outgrown=>exact he.elim
        cases h
      cases h
    cases h
  cases h
theorem Sim.same {A B:Hp}(hS:Sim ρ lab A w)(h:∀k,hget k A=hget k B):Sim ρ lab B w where
 kp:=hS.kp
 row:=fun k cs hk=>hS.row k cs zGr
 grow:=fun k e cs hk=>hS.grow k e cs zGr
 tip:=fun k e n hk=>hS.tip k e n zGr
 mp:=fun k es hk=>hS.mp k es zGr
 hdom:=fun k n x hx=>by
  obtain⟨e,m,h1,h2⟩:=hS.hdom k n x hx;grind
 adom:=fun k x hx=>by rw[<-h];exact hS.adom k x hx
 ldom:=hS.ldom
theorem c5T {r':OpR}(h:c3J H r=some r'):∃v H4,r=.val v H4/\r'=.val v H /\ ∀k,hget k H4=hget k H:=by
 unfold c3J at h;split at h
 ·rename_i v H4;split at h
  ·rename_i hs;cases h;exact⟨v,H4,rfl,rfl,c8R hs⟩
  grind
 grind
theorem a8I (h:a4C env orc k g args H=some r) :
  (a0e env orc k g args H=some r/\(env.quiet g=true∨env.look g=false))∨(env.quiet g=false/\env.look g=true /\ ∃v H4,a0e env orc k g args H=some (.val v H4)/\r=.val v H /\ ∀k,hget k H4=hget k H):=by
 unfold a4C at h;split at h
 ·rename_i hq;left;refine⟨?_,.inl hq⟩;unfold a0e;grind
 rename_i hq;split at h
 ·grind
 rename_i hl;split at h
 ·rename_i r0 hr;obtain⟨v,H4,rfl,h2,h3⟩:=c5T h;grind
 grind
theorem callW_ok (hO:b0G P orc)(hS:Sim ρ lab H w)(hx:L6 ρ lab w args xs)(h:a4C env orc k g args H=some r) :
  Calls P g xs.toArray w (b7t ρ lab w r) /\ ∃fn c,P.funcs[g]? = some fn/\(fn.name == "runtime.NumGoroutine")=false/\fn.body=some c:=by
 rcases a8I h with⟨h1,_⟩ |⟨_,_,v,H4,h1,rfl,h3⟩
 ·exact b4I hO hS hx h1
 obtain⟨k1,k2⟩:=b4I hO hS hx h1;refine⟨k1.mono fun e w' he=>?_,k2⟩;cases e with
 | returned x =>
  obtain⟨ρ',lab',s1,s2,s3,s4⟩:=he;exact⟨ρ',lab',s1.same h3,s2,s3,s4⟩
 | panicked ch=>exact he.elim
 | outgrown=>exact he.elim
theorem c0R {f:FuncId} {fn:Func} {c:Code} (hf:P.funcs[f]? = some fn) (hname:(fn.name == "runtime.NumGoroutine")=false) (hb:fn.body=some c) (args:Array Value) (w:World) :
  (callFunc f args).run P w=.ok (.enter f args) w:=by
 have h1 :=by simpa using hname
 simp[callFunc,hf,h1,hb]
def Post (nr n:Nat)(ρ:Rho)(lab:Lab)(w:World)(r:Res)(e:Exit)(a:Act)(w':World):Prop :=
 ∃ρ' lab',Sim ρ' lab' r.2.2 w'/\Ext lab w lab' w'/\a4B nr ρ ρ'/\a.defers=[] /\
  match r.1,e with
  | .normal,.normal=>FOk ρ' lab' w' r.2.1 a n
  | .ret,.ret=>FOk ρ' lab' w' r.2.1 a n
  | .exit i,.exit j=>i=j/\FOk ρ' lab' w' r.2.1 a n
  | .panic v,.panic ch=>∃x,ch=[{v:=x,recovered:=false}]/\Rel ρ' lab' w' v x
  | _,_=>False
theorem Post.trans {lab':Lab}{w'':World}{r:Res}{e:Exit}(E:Ext lab w lab' w')(R:a4B nr ρ ρ')(h:Post nr n ρ' lab' w' r e a w''):Post nr n ρ lab w r e a w'':=by
 obtain⟨ρ2,lab2,h1,h2,h3,h4⟩:=h;exact⟨ρ2,lab2,h1,E.trans h2,R.trans h3 zOm,h4⟩
def methB (P:Program)(t:Nat)(name:String)(g:Nat):Bool:=match P.info? t,P.underlying t with
 | some i,some d=>match i.methods.find? (·.name==name)with
  | none=>false
  | some m=>m.path.isEmpty&&(match m.func,d with
   | some (f,true),.pointer _=>Nat.beq f g
   | some (_,false),.pointer _=>false
   | some (f,false),_=>Nat.beq f g
   | _,_=>false)
 | _,_=>false
theorem c5W {P:Program}{t:Nat}{name:String}(h:methB P t name g=true)(n:Nat)(v:Value)(w:World):(method (n+1) t v name).run P w=.ok (g,v) w:=by
 unfold methB at h;split at h
 ·rename_i i d hi hd;split at h
  ·cases h
  rename_i m hm;simp at h;obtain⟨h1,h2⟩:=h;have hp:m.path.toList=[]:=by
   grind
  have ht:=a7y hi w;have hu:=K6 hd w;split at h2
  ·rename_i f _ hf;have:=Nat.eq_of_beq_eq_true h2;subst this;unfold method;simp only[Sem.run_bind,ht,Result.andThen_ok,hm,hp,follow,Sem.run_pure,hf,receiverAt,hu,Place.get]
  ·grind
  ·rename_i f hf hnp;have:=Nat.eq_of_beq_eq_true h2;subst this;unfold method;simp only[Sem.run_bind,ht,Result.andThen_ok,hm,hp,follow,Sem.run_pure,hf,receiverAt,hu];first
    | rfl
    | omega
    | omega
    | omega
    | omega
  grind
 grind
def a9V (env:Env):Prop:=∀t name g,env.meth t name=some g->methB env.P t name g=true
theorem call_run (hM:a9V env)(hO:b0G env.P orc)(hS:Sim ρ lab H w)(hF:a6o ρ lab w fr a.tmps)(hc:b7D o.op=true)(h:X6 env orc fr H o=some r) :
  ∃g args,(execOp a.eval o).run env.P w=.ok (.enter g args) w/\Calls env.P g args w (b7t ρ lab w r):=by
 obtain⟨dst,op,type,pos,after,guard⟩:=o;unfold X6 at h;simp only at h hc;split at h<;>try(cases hc;done)
 ·rename_i f args at_;split at h
  ·rename_i g first captured l hf hl
   have hb:=a0l hF hf;generalize hcv:a.eval f=cv at hb;cases hb with
   | func _ _ _ xs ys h1 h2 h3 h4 =>
   have hl':=c1s hF hl;have hr :=L6.append (L6.append ⟨h1,h3⟩ hl') ⟨h2,h4⟩;obtain⟨k1,fn,c,k2,k3,k4⟩:=callW_ok hO hS hr h;refine⟨g,_,?_,k1⟩;simp only[execOp,resolve,hcv,Deferred.ofValue,Sem.run_bind,Sem.run_pure,Result.andThen_ok,invoke];rw[c0R k2 k3 k4];simp_all
  grind
 ·rename_i rc m args at_;split at h
  ·rename_i t v l hr hl;split at h
   ·rename_i g hg;have hb:=a0l hF hr;generalize hcv:a.eval rc=cv at hb;cases hb with
    | iface _ _ x hx =>
    have hl':=c1s hF hl;have hrl :=F8.2 ⟨_,_,rfl,hx,hl'⟩;obtain⟨k1,fn,c,k2,k3,k4⟩:=b4I hO hS hrl h;refine⟨g,_,?_,k1⟩;have hm:=fun w=>c5W (hM t m g hg) (env.P.types.size+(Made.depth-1)) x w;have hd:env.P.types.size+(Made.depth-1)+1=env.P.types.size+Made.depth:=by simp[Made.depth]
    rw[hd]at hm;simp only[execOp,resolve,hcv,Sem.run_bind,Sem.run_pure,Result.andThen_ok,invoke];simp only[Array.getElem?_append,Array.size_singleton,Nat.zero_lt_one,if_true,List.getElem?_toArray,List.getElem?_cons_zero,callMethod,Sem.run_bind,run_program,Result.andThen_ok,hm];rw[show(#[x] ++(#[Value.iface t x]++Array.map a.eval args).extract 1 (#[Value.iface t x]++Array.map a.eval args).size) =(x::args.toList.map a.eval).toArray from ?_]
    ·exact c0R k2 k3 k4 _ _
    simp;exact List.take_of_length_le zSi
   grind
  grind
 grind
theorem Oper.wp_ok {next:Act->World->Prop}{Q:Exit->Act->World->Prop}{x:Next}(h:(execOp a.eval o).run P w=.ok x w')(hq:o.upon P a next Q (.ok x w')):o.wp P a w next Q:=by
 unfold Oper.wp;grind
theorem a8P (hM:a9V env)(hT:TOk env.P env.T)(hO:b0G env.P orc){ops:Array Oper}{Q:Exit->Act->World->Prop}(hdst:∀(i:Nat) (o:Oper) (d:Nat),ops[i]? = some o->o.dst=some d->d<n) :
  ∀(l:List Nat) (ρ:Rho) (lab:Lab) (w:World) (H:Hp) (fr:Fr) (a:Act) (r:Res),M7 env orc ops (l.filterMap (ops[·]?)) fr H=some r->Sim ρ lab H w->FOk ρ lab w fr a n ->
   (∀e a' w',Post nr n ρ lab w r e a' w'->Q e a' w')->wpOps env.P ops Q l a w
 | [],ρ,lab,w,H,fr,a,r,h,hS,hF,hQ=>by
  cases h;exact hQ _ _ _ ⟨ρ,lab,hS,.refl _ _,a4B.of_le (.refl _) _,hF.defers,hF⟩
 | i::l,ρ,lab,w,H,fr,a,r,h,hS,hF,hQ=>by
  unfold wpOps;cases ho:ops[i]? with
  | none =>
   simp only[List.filterMap_cons,ho]at h;exact a8P hM hT hO hdst l ρ lab w H fr a r h hS hF hQ
  | some o =>
   simp only[List.filterMap_cons,ho,M7]at h;have hd:=fun d=>hdst i o d ho;simp only;cases hw:G6 ops o fr with
   | none=>grind
   | some b =>
    have hw2:=c9e hF hw;rw[hw]at h;rw[hw2];cases b with
    | false =>
     exact a8P hM hT hO hdst l ρ lab w H _ _ r h hS (hF.put hd (.tuple [] [] rfl zSi)) hQ
    | true =>
     refine .inl ?_;unfold U0 at h;cases hp:Q6 o.op with
     | true =>
      rw[hp]at h;cases hv:a0Y env.T fr o.op with
      | none=>grind
      | some v =>
       rw[hv]at h;obtain⟨x,w1,h1,h2,h3⟩:=pure_ok hT hS.ldom hF.rel hv;refine Oper.wp_ok h1 ?_;have E:=h2.ext lab;refine a8P hM hT hO hdst l ρ lab w1 H _ _ r h (hS.grew h2) ((hF.ext E (.refl _)).put hd h3) (fun e a' w' hq=>hQ e a' w' (hq.trans E (a4B.of_le (.refl _) _)))
     | false =>
      rw[hp]at h;cases hv:X6 env orc fr H o with
      | none=>grind
      | some res =>
       rw[hv]at h;cases hcv:b7D o.op with
       | false =>
        cases res with
        | val v H1 =>
         obtain⟨nx,x,w1,ρ1,a6j,h1,h2,h3,h4,h5,h6⟩:=eff_run hT hS hF.rel hcv hv;have key  :=
          a8P hM hT hO hdst l ρ1 a6j w1 H1 _ _ r h h3 ((hF.ext h4 h5).put hd h6) (fun e a' w' hq=>hQ e a' w' (hq.trans h4 (a4B.of_le h5 _)))
         refine Oper.wp_ok h1 ?_;rcases h2 with rfl |⟨rfl,rfl⟩
         ·exact key
         exact key
        | pan v H1 =>
         cases h;obtain⟨x,h1,rfl,h2⟩:=c8y hF.rel hcv hv;unfold Oper.wp;rw[h1];exact hQ _ _ _ ⟨ρ,lab,hS,.refl _ _,a4B.of_le (.refl _) _,hF.defers,x,rfl,h2⟩
       | true =>
        obtain⟨g,args,h1,h2⟩:=call_run hM hO hS hF.rel hcv hv;refine Oper.wp_ok h1 ?_;refine h2.mono (fun e w1 he=>?_);cases res with
        | val v H1 =>
         cases e with
         | returned x =>
          obtain⟨ρ1,a6j,h3,h4,h5,h6⟩:=he;exact a8P hM hT hO hdst l ρ1 a6j w1 H1 _ _ r h h3 ((hF.ext h4 h5).put hd h6) (fun e a' w' hq=>hQ e a' w' (hq.trans h4 (a4B.of_le h5 _)))
         | panicked ch=>exact he.elim
         | outgrown=>exact he.elim
        | pan v H1 =>
         simp only at h;cases h;cases e with
         | returned x=>exact he.elim
         | panicked ch =>
          obtain⟨x,rfl,ρ1,a6j,h3,h4,h5,h6⟩:=he;exact hQ _ _ _ ⟨ρ1,a6j,h3,h4,a4B.of_le h5 _,hF.defers,x,rfl,h6⟩
         | outgrown=>exact he.elim
end
variable {f1:Fr} {H' H1:Hp} {l:List Oper} {t:Nat} {o:Oper} {v:V}
section
variable {env:Env} {orc:Orc} {fr fr':Fr} {H:Hp} {T:List (Nat×Ty)} {ops:Array Oper}
def a92 (env:Env):Op->Bool | .load ..=>true | .call {callee:=.value (.func g),.. }=>env.quiet g||env.look g|_=>false
def isLd (o:Oper):Bool:=match a6I o with
 | some _=>true
 | none=>false
def b94 (env:Env)(ops:Array Oper)(b:Bool)(x y:Oper):Bool:=x.apart ops y&&((Q6 x.op||Q6 y.op ||(a92 env x.op&&a92 env y.op)) ||(b&&(isLd x||isLd y ||(a6d x&&a6d y))))
def c2k (ops:Array Oper):Nat->Nat->Nat->Bool
 | 0,_,_=>false
 | d+1,i,j=>match ops[i]? with
  | none=>false
  | some o=>o.after.toList.any fun e=>Region.binds .any e&&(Nat.beq e.on j||c2k ops d e.on j)
def b6h (ops:Array Oper):Bool:=(List.range ops.size).all fun i=>match ops[i]? with
 | none=>true
 | some o=>o.after.toList.all fun e=>!Region.binds .any e||Nat.blt e.on i
def c6g (env:Env)(ops:Array Oper)(b:Bool):Bool:=(List.range ops.size).all fun i=>(List.range i).all fun j=>match ops[j]?,ops[i]? with
 | some x,some y=>b94 env ops b x y||c2k ops 8 i j
 | _,_=>true
def safeB:List Oper->Bool
 | []=>true
 | o::r=>(match a6I o with
  | some t=>(o::r).all fun z=>match z.dst with|some d=>!Nat.beq d t|none=>true
  | none=>true)&&safeB r
def drawB (env:Env)(ops:Array Oper)(b:Bool):Bool:=b6h ops&&c6g env ops b&&(!b||safeB ops.toList)
def b0H (a b:Fr):Prop:=∀t,look t a=look t b
theorem b0H.refl (a:Fr):b0H a a:=fun _=>rfl
theorem b0H.trans {a b c:Fr}(h:b0H a b)(g:b0H b c):b0H a c:=fun t=>(h t).trans (g t)
theorem a5R (d:Option Nat)(v:V)(fr:Fr)(t:Nat):look t (Y5 d v fr)=if d=some t then v else look t fr:=by
 cases d with
 | none=>simp[Y5]
 | some d=>simp only[Y5,b3X,Option.some.injEq]
theorem a6Y {α β:Type}{f g:α->Option β}:∀{l:List α},(∀a∈l,f a=g a)->a2r f l=a2r g l
 | [],_=>rfl
 | a::t,h=>by simp only[a2r];rw[h a zGr,a6Y (fun b hb=>h b zGr)]
theorem b97 {l:List (Nat×Operand)}(h:∀x∈l.map (·.2),ev fr x=ev fr' x):evP fr l=evP fr' l:=by
 exact a6Y fun p hp=>zGr
theorem b6j {o:Option Operand}(h:∀x∈o.toList,ev fr x=ev fr' x):evX fr o=evX fr' o:=by
 cases o with
 | none=>rfl
 | some x=>simp only[evX];grind
theorem b7f {op:Op}(h:∀x∈op.operands.toList,ev fr x=ev fr' x):a0Y T fr op=a0Y T fr' op:=by
 cases op with
 | build t ps=>simp only[a0Y];rw[b97   fun x hx=>h x (by simpa [Op.operands]using hx)]
 | buildSlice t n ps=>simp only[a0Y];rw[b97   fun x hx=>h x (by simpa [Op.operands]using hx)]
 | makeFunc fn a b =>
  simp only[a0Y,evL];rw[a6Y   fun x hx=>h x (by simp only[Op.operands,Array.toList_append,List.mem_append];grind),
   a6Y   fun x hx=>h x (by simp only[Op.operands,Array.toList_append,List.mem_append];grind)]
 | slice t x lo hi mx =>
  simp only[a0Y];rw[h x (by simp[Op.operands]),b6j    fun y hy=>h y (by simp[Op.operands];grind),
   b6j    fun y hy=>h y (by simp[Op.operands];grind),
   b6j    fun y hy=>h y (by simp[Op.operands];grind)]
 | call c =>
  obtain⟨callee,args,argTypes⟩:=c;cases callee with
  | builtin b =>
   have h':∀x∈args.toList,ev fr x=ev fr' x:=fun x hx=>h x (by simpa [Op.operands,Call.operands]using hx);generalize hl:args.toList=l at h';cases b<;>simp only[a0Y,hl]<;>first
    | rfl
    | grind
  | _=>rfl
 | _ =>
  simp only[Op.operands]at h;simp only[a0Y]<;>first
   | rfl
   | grind
theorem b67 (h:∀x∈o.op.operands.toList,ev fr x=ev fr' x):X6 env orc fr H o=X6 env orc fr' H o:=by
 obtain⟨dst,op,type,pos,after,guard⟩:=o;cases op with
 | call c =>
  obtain⟨callee,args,argTypes⟩:=c;cases callee with
  | builtin b =>
   have h':∀x∈args.toList,ev fr x=ev fr' x:=fun x hx=>h x (by simpa [Op.operands,Call.operands]using hx);generalize hl:args.toList=l at h';cases b<;>simp only[X6,hl]<;>first
    | rfl
    | grind
  | value f =>
   simp only[X6,evL];rw[h f (by simp[Op.operands,Call.operands]),a6Y   fun x hx=>h x (by simp[Op.operands,Call.operands];grind)]
  | invoke r m =>
   simp only[X6,evL];rw[h r (by simp[Op.operands,Call.operands]),a6Y   fun x hx=>h x (by simp[Op.operands,Call.operands];grind)]
 | makeMap t r =>
  cases r with
  | none=>rfl
  | some c =>
   simp only[X6,newName];rw[h c (by simp[Op.operands])]
 | _ =>
  simp only[Op.operands]at h;simp only[X6,newName]<;>first
   | rfl
   | grind
   | grind
def opV (env:Env)(orc:Orc)(ops:Array Oper)(o:Oper)(fr:Fr)(H:Hp):Option (V×Hp) :=
 match G6 ops o fr with
 | none=>none
 | some false=>some (.tuple [],H)
 | some true=>match U0 env orc fr H o with
  | some (.val v H)=>some (v,H)
  | _=>none
theorem a1o {r:List Oper}:M7 env orc ops (o::r) fr H=some (.normal,f1,H1) ↔ ∃v H',opV env orc ops o fr H=some (v,H')/\M7 env orc ops r (Y5 o.dst v fr) H'=some (.normal,f1,H1):=by
 simp only[M7,opV];grind
theorem b6z (h:∀t∈o.looksAt ops,look t fr=look t fr'):opV env orc ops o fr H=opV env orc ops o fr' H:=by
 have hop:∀x∈o.op.operands.toList,ev fr x=ev fr' x:=by
  intro x hx;cases x with
  | tmp t=>simp only[ev];rw[h t (List.mem_append_left _ zGr)]
  | _=>rfl
 have hw:G6 ops o fr=G6 ops o fr':=by
  unfold G6;cases hg:o.guard with
  | none=>rfl
  | some p =>
   obtain⟨j,want⟩:=p;simp only[b3G];cases hd:(ops[j]?).bind (·.dst)with
   | none=>rfl
   | some t=>simp only;rw[h t (by simp[Oper.looksAt,hg,hd])]
 simp only[opV,hw,U0,b7f hop,b67 hop]
theorem b8Z (hp:Q6 o.op=true)(h:opV env orc ops o fr H=some (v,H')):H'=H /\ ∀H2,opV env orc ops o fr H2=some (v,H2):=by
 simp only[opV,U0,hp]at h ⊢;grind
theorem c58 (hp:a92 env o.op=true)(h:X6 env orc fr H o=some (.val v H')):H'=H:=by
 obtain⟨dst,op,type,pos,after,guard⟩:=o;unfold a92 at hp;simp at hp;split at hp
 ·simp only[X6]at h;grind
 ·rename_i g args argTypes;simp only[X6,ev]at h;split at h
  ·rename_i g' first captured l hf hl
   obtain⟨rfl,_,_⟩:=hf;rcases a8I h with⟨h1,h2⟩ |⟨_,_,v',H4,h1,h2,_⟩
   ·have hq:env.quiet g=true:=by
     grind
    simp only[a0e,hq,a3B]at h1;split at h1
    ·grind
    split at h1
    ·grind
    grind
   grind
  grind
 grind
theorem b8Y (hp:a92 env o.op=true)(h:opV env orc ops o fr H=some (v,H')):H'=H:=by
 simp only[opV,U0]at h;cases hw:G6 ops o fr with
 | none=>grind
 | some b =>
  rw[hw]at h;cases b with
  | false=>grind
  | true =>
   cases hq:Q6 o.op with
   | true =>
    grind
   | false =>
    rw[hq]at h;cases hv:X6 env orc fr H o with
    | none=>grind
    | some u =>
     cases u with
     | val u H2=>rw[hv]at h;obtain⟨rfl,rfl⟩:=h;exact c58 hp hv
     | pan u H2=>grind
theorem b4u:∀{l:List Oper} {fr fr':Fr} {H:Hp} {f1:Fr} {H1:Hp},b0H fr fr'->M7 env orc ops l fr H=some (.normal,f1,H1) -> ∃f2,M7 env orc ops l fr' H=some (.normal,f2,H1)/\b0H f1 f2
 | [],fr,fr',H,f1,H1,e,h=>by simp only[M7,Option.some.injEq,Prod.mk.injEq,true_and]at h ⊢;grind
 | o::r,fr,fr',H,f1,H1,e,h=>by
  obtain⟨v,H',h1,h2⟩:=a1o.1 h;rw[b6z  fun t _=>e t]at h1;obtain⟨f2,h3,h4⟩:=b4u (fr':=Y5 o.dst v fr') (fun t=>by rw[a5R,a5R,e t]) h2;exact⟨f2,a1o.2 ⟨v,H',h1,h3⟩,h4⟩
def HFree (env:Env)(orc:Orc)(ops:Array Oper)(o:Oper)(fr:Fr):Prop:=∀(v:V) (H H':Hp),opV env orc ops o fr H=some (v,H')->H'=H /\ ∀H2,opV env orc ops o fr H2=some (v,H2)
theorem c0s (hl:a6I o=some t)(ha:b1R (look t fr)=true):HFree env orc ops o fr:=by
 have ho:∃ty,o.op=.load ty (.tmp t):=by
  unfold a6I at hl;grind
 obtain⟨ty,ho⟩:=ho;obtain⟨cs,hcs⟩:∃cs,look t fr=.cptr cs:=by
  cases hv:look t fr<;>rw[hv]at ha<;>first|cases ha;done|grind
 intro v H H' h;simp only[opV]at h ⊢;cases hw:G6 ops o fr with
 | none=>grind
 | some w =>
  rw[hw]at h;cases w with
  | false=>grind
  | true =>
   have hp:Q6 o.op=false:=by rw[ho];rfl
   have he:∀K,U0 env orc fr K o=match a6s env.T ty (.cptr cs) []with|some v=>some (.val v K)|none=>none:=by
    intro K;simp only[U0,hp];unfold X6;rw[ho];simp only[ev,hcs];have hK:a6s env.T ty (.cptr cs) K=a6s env.T ty (.cptr cs) []:=by unfold a6s;grind
    grind
   simp only[he]at h ⊢;cases hq:a6s env.T ty (.cptr cs) []with
   | none=>grind
   | some u=>grind
theorem nbeq {a c:Nat}(h:a≠c):Nat.beq a c=false:=by
 cases hb:Nat.beq a c with
 | false=>rfl
 | true=>simp_all
theorem b1f {j k:Nat}{o p:Obj}(h:j≠k):∀H:Hp,hset j o (hset k p H)=hset k p (hset j o H)
 | []=>by
  have h1 :=nbeq h;have h2 :=nbeq (Ne.symm h);simp only[hset,h1,h2];rcases Nat.lt_or_ge j k with h3|h3
  ·rw[Nat.ble_eq_true_of_le zOm,show Nat.ble k j=false by rw[<-Bool.not_eq_true,Nat.ble_eq];omega]
  rw[Nat.ble_eq_true_of_le (by omega:k<=j),show Nat.ble j k=false by rw[<-Bool.not_eq_true,Nat.ble_eq];omega]
 |(s,x)::r=>by
  have ih:=b1f (o:=o) (p:=p) h r;have b1:∀{a c:Nat},a≠c->Nat.beq a c=false:=fun h=>nbeq h;have b2:∀{a c:Nat},¬a<=c->Nat.ble a c=false:=fun h=>by rw[<-Bool.not_eq_true,Nat.ble_eq];exact h
  by_cases hj:s=j
  ·subst hj;by_cases hk:Nat.ble k s=true
   ·simp[hset,b1 h,b1 (Ne.symm h),hk,b2 (show ¬s<=k by grind)]
   simp[hset,b1 h,hk]
  by_cases hk:s=k
  ·subst hk;by_cases hj2:Nat.ble j s=true
   ·simp[hset,b1 h,b1 (Ne.symm h),b1 hj,hj2,b2 (show ¬s<=j by grind)]
   simp[hset,b1 hj,hj2]
  by_cases h1:Nat.ble j s=true
  ·by_cases h2:Nat.ble k s=true
   ·rcases Nat.lt_or_ge j k with h3|h3
    ·simp[hset,b1 hj,b1 hk,h1,h2,b1 h,b1 (Ne.symm h),b2 (show ¬k<=j by omega),Nat.ble_eq_true_of_le (show j<=k by omega)]
    simp[hset,b1 hj,b1 hk,h1,h2,b1 h,b1 (Ne.symm h),b2 (show ¬j<=k by omega),Nat.ble_eq_true_of_le zOm]
   simp only[Bool.not_eq_true]at h2;have h3:¬k<=j:=by
    intro h4;have h5:=Nat.le_of_ble_eq_true h1;rw[Nat.ble_eq_true_of_le zOm]at h2;grind
   simp[hset,b1 hj,b1 hk,h1,h2,b1 h,b2 h3]
  simp only[Bool.not_eq_true]at h1;by_cases h2:Nat.ble k s=true
  ·have h3:¬j<=k:=by
    intro h4;have h5:=Nat.le_of_ble_eq_true h2;rw[Nat.ble_eq_true_of_le zOm]at h1;cases h1
   simp[hset,b1 hj,b1 hk,h1,h2,b1 (Ne.symm h),b2 h3]
  simp only[Bool.not_eq_true]at h2;simp[hset,b1 hj,b1 hk,h1,h2,ih]
theorem b6y (ho:o.op=.alloc t)(h:opV env orc ops o fr H=some (v,H')) :
  (H'=H /\ ∀K,opV env orc ops o fr K=some (v,K)) ∨ ∃x,hget (newName o) H=none/\H'=hset (newName o) x H /\ ∀K,hget (newName o) K=none->opV env orc ops o fr K=some (v,hset (newName o) x K):=by
 have hp:Q6 o.op=false:=by rw[ho];rfl
 simp only[opV,U0,hp]at h ⊢;cases hw:G6 ops o fr with
 | none=>grind
 | some w =>
  rw[hw]at h;cases w with
  | false=>grind
  | true =>
   have he:∀K,X6 env orc fr K o=match O7 t env.T,hget (newName o) K with|some y,none=>some (.val (.ptr (newName o) 0) (hset (newName o) (.row y.zero) K))|_,_=>none:=by
    intro K;unfold X6;grind
   grind
theorem b4k (h:a6d o=true):∃t,o.op=.alloc t:=by
 unfold a6d at h;grind
theorem swap_ok {b:Bool}{x y:Oper}(hc:b94 env ops b x y=true)(hx:b=true->isLd x=true->HFree env orc ops x fr)(hy:b=true->isLd y=true->HFree env orc ops y fr)
  (h:M7 env orc ops (x::y::l) fr H=some (.normal,f1,H1)) :
  ∃f2,M7 env orc ops (y::x::l) fr H=some (.normal,f2,H1)/\b0H f1 f2:=by
 simp only[b94,Bool.and_eq_true]at hc;obtain⟨ha,hc⟩:=hc;obtain⟨a1,a2,a3⟩:=Oper.apart_spec ha;obtain⟨vx,Hx,h1,h2⟩:=a1o.1 h;obtain⟨vy,Hy,h3,h4⟩:=a1o.1 h2;have e1:opV env orc ops y (Y5 x.dst vx fr) Hx=opV env orc ops y fr Hx:=b6z fun t ht=>by
  rw[a5R,if_neg];grind
 have e2:∀K,opV env orc ops x (Y5 y.dst vy fr) K=opV env orc ops x fr K:=fun K=>b6z fun t ht=>by
  rw[a5R,if_neg];grind
 rw[e1]at h3;have e3:b0H (Y5 y.dst vy (Y5 x.dst vx fr)) (Y5 x.dst vx (Y5 y.dst vy fr)):=fun t=>by
  simp only[a5R];grind
 have fin:∀K,opV env orc ops y fr H=some (vy,K)->opV env orc ops x fr K=some (vx,Hy) -> ∃f2,M7 env orc ops (y::x::l) fr H=some (.normal,f2,H1)/\b0H f1 f2:=by
  intro K k1 k2;obtain⟨f2,g1,g2⟩:=b4u e3 h4;exact⟨f2,a1o.2 ⟨vy,K,k1,a1o.2 ⟨vx,Hy,(e2 K).trans k2,g1⟩⟩,g2⟩
 simp at hc;rcases hc with((hc|hc) |⟨hc,hc'⟩) |⟨hb,(hc|hc) |⟨hc,hc'⟩⟩
 ·obtain⟨rfl,g⟩:=b8Z hc h1;grind
 ·obtain⟨rfl,g⟩:=b8Z hc h3;grind
 ·have:=b8Y hc h1;subst this;have:=b8Y hc' h3;grind
 ·obtain⟨rfl,g⟩:=hx hb hc _ _ _ h1;grind
 ·obtain⟨rfl,g⟩:=hy hb hc _ _ _ h3;grind
 obtain⟨t1,ho1⟩:=b4k hc;obtain⟨t2,ho2⟩:=b4k hc';rcases b6y ho1 h1 with⟨rfl,g1⟩ |⟨o1,g1,rfl,g2⟩
 ·grind
 rcases b6y ho2 h3 with⟨rfl,g3⟩ |⟨o2,g3,rfl,g4⟩
 ·grind
 rw[F4]at g3;split at g3
 ·grind
 rename_i hne;refine fin _ (g4 H g3) ?_;rw[b1f hne];exact g2 _ (by rw[F4,if_neg zOm];grind)
def a7s (f1:Fr):List Oper->Prop
 | []=>True
 | o::r=>(∀t,a6I o=some t->b1R (look t f1)=true /\ ∀z∈o::r,z.dst≠some t)/\a7s f1 r
theorem a7s.sub {l':List Oper}(h:List.Sublist l' l):a7s f1 l->a7s f1 l':=by
 induction h with
 | slnil=>grind
 | cons a _ ih=>exact fun h=>ih h.2
 | cons_cons a hs ih=>exact fun h=>⟨fun t ht=>⟨(h.1 t ht).1,fun z hz=>(h.1 t ht).2 z zGr⟩,ih h.2⟩
theorem a7s.congr {f1 f2:Fr}(e:b0H f1 f2):∀{l:List Oper},a7s f1 l->a7s f2 l
 | [],_=>trivial
 | _::_,h=>⟨fun t ht=>⟨by rw[<-e t];exact(h.1 t ht).1,(h.1 t ht).2⟩,a7s.congr e h.2⟩
theorem a7s.mem {f1:Fr}{y:Oper}{B:List Oper}:∀{A:List Oper},a7s f1 (A++y::B)->a7s f1 (y::B)
 | [],h=>h
 | _::_,h=>a7s.mem h.2
theorem b1O:∀{l:List Oper} {fr f1:Fr} {H H1:Hp} {t:Nat},M7 env orc ops l fr H=some (.normal,f1,H1) ->(∀z∈l,z.dst≠some t)->look t f1=look t fr
 | [],fr,f1,H,H1,t,h,_=>by simp only[M7,Option.some.injEq,Prod.mk.injEq,true_and]at h;grind
 | o::l,fr,f1,H,H1,t,h,hz=>by
  obtain⟨v,H',h1,h2⟩:=a1o.1 h;rw[b1O h2 zGr,a5R,if_neg zGr]
theorem c3B (h:a6I o=some t):t∈o.looksAt ops:=by
 unfold a6I at h;split at h
 ·rename_i ty t' he;cases h;refine List.mem_append_left _ (List.mem_filterMap.2 ⟨.tmp t,?_,rfl⟩);rw[he];simp[Op.operands]
 grind
theorem b6q (h:isLd o=true):∃t,a6I o=some t:=by
 unfold isLd at h;grind
theorem b91 {b:Bool}{y:Oper}:∀{A B:List Oper} {fr f1:Fr} {H H1:Hp},(∀x∈A,b94 env ops b x y=true) ->(b=true->a7s f1 (A++y::B))->M7 env orc ops (A++y::B) fr H=some (.normal,f1,H1) ->
  ∃f2,M7 env orc ops (y ::(A++B)) fr H=some (.normal,f2,H1)/\b0H f1 f2
 | [],B,fr,f1,H,H1,_,_,h=>⟨f1,h,.refl _⟩
 | x::A,B,fr,f1,H,H1,hc,hS,h=>by
  obtain⟨v,H',h1,h2⟩:=a1o.1 h;obtain⟨f2,h3,h4⟩:=b91 zGr (fun hb=>(hS hb).2) h2;have hev :=a1o.2 ⟨v,H',h1,h3⟩;have hmem:∀z∈x::y ::(A++B),z∈x ::(A++y::B):=by
   grind
  obtain⟨f3,h5,h6⟩:=swap_ok (hc x zGr) (fun hb hl=>by
   obtain⟨t,ht⟩:=b6q hl;obtain⟨k1,k2⟩:=(hS hb).1 t ht;refine c0s ht ?_;rw[<-b1O hev (fun z hz=>k2 z (hmem z hz)),<-h4 t];grind) (fun hb hl=>by
   obtain⟨t,ht⟩:=b6q hl;have hy :=a7s.mem  (hS hb);obtain⟨k1,k2⟩:=hy.1 t ht;refine c0s ht ?_;rw[<-b1O hev (fun z hz=>?_),<-h4 t]
   ·grind
   have hno:∀u∈x::A,u.dst≠some t:=by
    intro u hu hd;have:=hc u hu;simp only[b94,Bool.and_eq_true]at this;exact(Oper.apart_spec this.1).1 t hd (c3B ht)
   grind) hev
  exact⟨f3,h5,h4.trans h6⟩
theorem c7S {f1:Fr}:∀{l:List Oper},safeB l=true ->((a6F l).all fun t=>b1R (look t f1))=true->a7s f1 l
 | [],_,_=>trivial
 | o::r,h1,h2=>by
  simp only[safeB,Bool.and_eq_true]at h1;refine⟨fun t ht=>?_,c7S h1.2 ?_⟩
  ·rw[ht]at h1;simp only[a6F,ht,List.all_cons,Bool.and_eq_true]at h2;refine⟨h2.1,fun z hz hd=>?_⟩;have:=List.all_eq_true.1 h1.1 z hz;simp_all
  simp only[a6F]at h2;grind
end
variable {args:List V} {g j k k':Nat} {o:Obj} {r:OpR}
section
variable {env:Env} {orc:Orc} {ops:Array Oper} {L sl:List Nat} {fr fr':Fr} {H H':Hp}
def Sub (H H':Hp):Prop:=∀k o,hget k H=some o->hget k H'=some o
theorem Sub.refl (H:Hp):Sub H H:=fun _ _ h=>h
theorem Sub.trans {A B C:Hp}(h:Sub A B)(g:Sub B C):Sub A C:=fun k o e=>g k o (h k o e)
theorem b51 (h:hget k H=none):Sub H (hset k o H):=fun j x e=>by
 rw[F4,if_neg];· exact e
 rintro rfl;rw[h]at e;cases e
theorem b6C:∀(n:Nat) (todo acc:List Nat) (k:Nat),k∈acc->k∈reach H n todo acc
 | 0,_,_,_,h=>by simpa [reach]using h
 | n+1,[],_,_,h=>by simpa [reach]using h
 | n+1,a::todo,acc,k,h=>by
  simp only[reach];cases has a acc with
  | true=>exact b6C n todo acc k h
  | false=>exact b6C n _ _ k (List.mem_append_left _ h)
theorem b1y (hs:Sub H H'):∀(n:Nat) (todo acc:List Nat),(∀k∈reach H n todo acc,hget k H≠none)->reach H' n todo acc=reach H n todo acc
 | 0,_,_,_=>by simp[reach]
 | n+1,[],_,_=>by simp[reach]
 | n+1,a::todo,acc,h=>by
  simp only[reach]at h ⊢;cases hb:has a acc with
  | true=>rw[hb]at h;exact b1y hs n todo acc h
  | false =>
   rw[hb]at h;simp only at h ⊢;have ha:=h a (b6C n _ _ a (List.mem_append_right _ (List.mem_singleton.2 rfl)));cases hg:hget a H with
   | none=>exact absurd hg ha
   | some o =>
    rw[hg]at h;rw[hs a o hg];exact b1y hs n _ _ h
theorem b31 (hs:Sub H H'){m:Nat->Option Nat}:∀{ns:List Nat} {i:Nat} {r:Hp},a8q H m ns i=some r->a8q H' m ns i=some r /\ ∀k∈ns,hget k H≠none
 | [],i,r,h=>⟨h,fun k hk=>by cases hk⟩
 | a::ns,i,r,h=>by
  simp only[a8q]at h ⊢;cases hg:hget a H with
  | none=>rw[hg]at h;cases h
  | some o =>
   rw[hg]at h;rw[hs a o hg];simp only at h ⊢;cases ho:renO m o with
   | none=>rw[ho]at h;cases h
   | some o' =>
    rw[ho]at h;cases hp:a8q H m ns (i+1)with
    | none=>rw[hp]at h;cases h
    | some l =>
     rw[hp]at h;obtain⟨h1,h2⟩:=b31 hs hp;rw[h1];refine⟨h,fun k hk=>?_⟩;rcases List.mem_cons.1 hk with rfl|hk
     ·rw[hg];simp
     exact h2 k hk
theorem c5F (hs:Sub H H'){nr:Nat}{v:V}{r:V×Hp}(h:finish nr v H=some r):finish nr v H'=some r:=by
 unfold finish at h ⊢;simp only[b99,b8g,b2w]at h ⊢;cases hp:a8q H (idx · (reach H 99 (List.range nr++a3W dep v) [])) (reach H 99 (List.range nr++a3W dep v) []) 0 with
 | none=>rw[hp]at h;revert h;cases a2K (idx · (reach H 99 (List.range nr++a3W dep v) [])) dep v<;>(intro h;cases h)
 | some H2 =>
  obtain⟨h1,h2⟩:=b31 hs hp;rw[b1y hs _ _ _ h2,h1,<-hp];exact h
theorem b4Q {m:Nat->Option Nat}{k:Nat}:∀{M H H4:Hp},a3r m M H=some H4->hget k H4=none->hget k H=none
 | [],H,H4,h,hk=>by simp only[a3r,Option.some.injEq]at h;rw[h];exact hk
 |(i,x)::r,H,H4,h,hk=>by
  simp only[a3r]at h;split at h
  ·rename_i j x' _ _;have:=b4Q h hk;rw[F4]at this;split at this
   ·cases this
   exact this
  cases h
theorem b8E {m:Nat->Option Nat}{k:Nat}{o:Obj}:∀{M H H4:Hp},a3r m M H=some H4->hget k H4=none->a3r m M (hset k o H)=some (hset k o H4)
 | [],H,H4,h,hk=>by simp only[a3r,Option.some.injEq]at h ⊢;rw[h]
 |(i,x)::r,H,H4,h,hk=>by
  simp only[a3r]at h ⊢;split at h
  ·rename_i j x' _ _;have:=b4Q h hk;have hne:j≠k:=by
    rintro rfl;rw[F4,if_pos rfl]at this;cases this
   rw[b1f hne];exact b8E h hk
  cases h
theorem b8F {m:Nat->Option Nat}{k:Nat}:∀{M H H4:Hp},a3r m M H=some H4 ->(∀i o,(i,o)∈M->m i≠some k)->hget k H4=hget k H
 | [],H,H4,h,_=>by simp only[a3r,Option.some.injEq]at h;rw[h]
 |(i,x)::r,H,H4,h,hk=>by
  simp only[a3r]at h;split at h
  ·rename_i j x' hj _;rw[b8F h (fun i' o' hm=>hk i' o' (List.mem_cons_of_mem _ hm)),F4,if_neg];rintro rfl;exact hk i x (List.mem_cons_self ..) hj
  cases h
theorem c3y:∀{M:Hp} {i:Nat},keysB i M=true -> ∀j o,(j,o)∈M->i<=j/\j<i+M.length
 | [],_,_,_,_,hm=>by cases hm
 |(a,x)::r,i,h,j,o,hm=>by
  simp only[keysB,Bool.and_eq_true]at h;have ha:=Nat.eq_of_beq_eq_true h.1;rcases List.mem_cons.1 hm with he|hm
  ·cases he;simp only[List.length_cons];omega
  have:=c3y h.2 j o hm;simp only[List.length_cons];omega
theorem b8n {k':Nat}{o:Obj}:∀{n k:Nat},b1P H k n=true ->(∀i,i<n->k+i≠k')->b1P (hset k' o H) k n=true
 | 0,_,_,_=>rfl
 | n+1,k,h,hn=>by
  simp only[b1P,Bool.and_eq_true]at h ⊢;refine⟨?_,b8n h.2 (fun i hi=>hn i zOm)⟩;rw[F4,if_neg (hn n (Nat.lt_succ_self n))];exact h.1
def OpR.heap:OpR->Hp | .val _ H=>H | .pan _ H=>H
def OpR.add (k:Nat)(o:Obj):OpR->OpR | .val v H=>.val v (hset k o H) | .pan v H=>.pan v (hset k o H)
theorem b0W (h:a3B orc g args H=some r):r.heap=H /\ ∀K,∃v,r=.val v H/\a3B orc g args K=some (.val v K):=by
 unfold a3B at h ⊢;split at h
 ·cases h
 split at h
 ·rename_i ho;split at h
  ·rename_i hv;cases h;exact⟨rfl,fun K=>⟨_,rfl,rfl⟩⟩
  cases h
 cases h
def b92 (env:Env)(g:Nat)(X5:List V)(n:Nat)(H2:Hp):List V×Hp:=b4v env.full (a6h (env.argTags g) X5 n).1 ((X9 H2 (a6h (env.argTags g) X5 n).2).1++b4h n ((X9 H2 (a6h (env.argTags g) X5 n).2).2-n))
theorem a9C (hq:env.quiet g = false) (h:a0e env orc k g args H = some r) :
    ∃ns X5 H2 H3 v v4,reach H 99 ((a5s (env.argTags g) (env.a9z g) args).flatMap (a3W dep)) []=ns/\a2r (a2K (idx · ns) dep) (a5s (env.argTags g) (env.a9z g) args)=some X5/\a8q H (idx · ns) ns 0=some H2 /\
      a2K (L8 ns k) dep v=some v4/\a3r (L8 ns k) H3 H=some r.heap/\a6x H H3 k ns.length=true /\
      ((orc (.call g (b92 env g X5 ns.length H2).1) (b92 env g X5 ns.length H2).2=some (.ret v H3)/\r=.val v4 r.heap) ∨
       (orc (.call g (b92 env g X5 ns.length H2).1) (b92 env g X5 ns.length H2).2=some (.pan v H3)/\r=.pan v4 r.heap)):=by
  unfold a0e at h;rw[hq]at h;simp only at h;generalize hns:reach H 99 ((a5s (env.argTags g) (env.a9z g) args).flatMap (a3W dep)) []=ns at h;split at h
  · rename_i X5 H2 h1 h2
    split at h
    · rename_i v H3 ho
      split at h
      · rename_i v4 H4 hv hm
        split at h
        · rename_i hf
          cases h;exact⟨ns,X5,H2,H3,v,v4,rfl,h1,h2,hv,hm,hf,.inl ⟨ho,rfl⟩⟩
        cases h
      cases h
    · rename_i v H3 ho
      split at h
      · rename_i v4 H4 hv hm
        split at h
        · rename_i hf
          cases h;exact⟨ns,X5,H2,H3,v,v4,rfl,h1,h2,hv,hm,hf,.inr ⟨ho,rfl⟩⟩
        cases h
      cases h
    cases h
  cases h
theorem b6X (h:a0e env orc k g args H=some r)(hk:hget k' r.heap=none):hget k' H=none:=by
 cases hq:env.quiet g with
 | true =>
  unfold a0e at h;rw[hq]at h;rw[(b0W h).1]at hk;exact hk
 | false =>
  obtain⟨ns,a2,H2,H3,v,v4,_,_,_,_,hm,_⟩:=a9C hq h;exact b4Q hm hk
theorem b6W (h:a0e env orc k g args H=some r)(hk:hget k' r.heap=none)(hne:∀i,i<64->k+i≠k') :
  a0e env orc k g args (hset k' o H)=some (r.add k' o):=by
 cases hq:env.quiet g with
 | true =>
  unfold a0e at h ⊢;rw[hq]at h ⊢;obtain⟨v,rfl,h2⟩:=(b0W h).2 (hset k' o H);exact h2
 | false =>
  have hk0:=b6X h hk;obtain⟨ns,a2,H2,H3,v,v4,h1,h2,h3,h4,hm,hf,ho⟩:=a9C hq h;have hs:Sub H (hset k' o H):=b51 hk0;obtain⟨p1,p2⟩:=b31 hs h3;have hr:=b1y hs 99 ((a5s (env.argTags g) (env.a9z g) args).flatMap (a3W dep)) [] (by rw[h1];exact p2);have hf2:a6x (hset k' o H) H3 k ns.length=true:=by
   simp only[a6x,Bool.and_eq_true]at hf ⊢;refine⟨hf.1,b8n hf.2 fun i hi=>hne i ?_⟩;have:=Nat.le_of_ble_eq_true hf.1.1;omega
  have hm2:=b8E (o:=o) hm hk;unfold a0e;rw[hq];simp only[hr,h1,h2,p1];rcases ho with⟨ho,hre⟩ |⟨ho,hre⟩
  ·simp only[b92]at ho;simp only[ho,h4,hm2,hf2];rw[hre];rfl
  simp only[b92]at ho;simp only[ho,h4,hm2,hf2];rw[hre];rfl
theorem c8c (h:a4C env orc k g args H=some r)(hk:hget k' r.heap=none):hget k' H=none:=by
 rcases a8I h with⟨h1,_⟩ |⟨_,_,v,H4,h1,rfl,h3⟩
 ·exact b6X h1 hk
 exact hk
theorem c8b (h:a4C env orc k g args H=some r)(hk:hget k' r.heap=none)(hne:∀i,i<64->k+i≠k') :
  a4C env orc k g args (hset k' o H)=some (r.add k' o):=by
 rcases a8I h with⟨h1,h2⟩ |⟨hq,hl,v,H4,h1,rfl,h3⟩
 ·have h4:=b6W (o:=o) h1 hk hne;unfold a4C;rcases h2 with h2|h2
  ·rw[h2];simp only;unfold a0e at h4;rw[h2]at h4;exact h4
  cases hq:env.quiet g with
  | true =>
   simp only;unfold a0e at h4;rw[hq]at h4;exact h4
  | false=>simp only[h2];exact h4
 have h4:=b6W (o:=o) h1 (k':=k') (by show hget k' H4=none;rw[h3];exact hk) hne;unfold a4C;simp only[hq,hl,h4];have h5:b9o (hset k' o H4) (hset k' o H)=true:=c4x fun j=>by rw[F4,F4,h3]
 simp only[OpR.add,c3J,h5]
theorem b0t {k:Nat}:∀{l:List Nat},has k l=true↔k∈l
 | []=>by simp[has]
 | a::r=>by
  simp only[has,List.mem_cons];cases hb:Nat.beq a k with
  | true=>have:=Nat.eq_of_beq_eq_true hb;simp[this]
  | false =>
   have hne:k≠a:=by rintro rfl;simp at hb
   simp only[b0t (l:=r)];exact⟨.inr,fun h=>h.resolve_left hne⟩
theorem c1f (h:a0e env orc k g args H=some r)(hj:hget j H≠none)
  (hn:env.quiet g=false->has j (reach H 99 ((a5s (env.argTags g) (env.a9z g) args).flatMap (a3W dep)) [])=false):hget j r.heap=hget j H:=by
 cases hq:env.quiet g with
 | true =>
  unfold a0e at h;rw[hq]at h;rw[(b0W h).1]
 | false =>
  obtain⟨ns,a2,H2,H3,v,v4,h1,h2,h3,h4,hm,hf,_⟩:=a9C hq h;have hn:=hn hq;rw[h1]at hn;simp only[a6x,Bool.and_eq_true]at hf;refine b8F hm fun i o hio hb=>?_;have hlt:=c3y hf.1.2 i o hio;unfold L8 at hb;split at hb
  ·rename_i j' hj';cases hb;have:j∈ns:=List.mem_of_getElem? hj';rw[<-b0t,hn]at this;cases this
  rename_i hno;cases hb;have hge:ns.length<=i:=by
   rcases Nat.lt_or_ge i ns.length with h5|h5
   ·rw[List.getElem?_eq_getElem h5]at hno;cases hno
   exact h5
  exact hj (b6m hf.2 (i-ns.length) zOm)
theorem c5j (h:a4C env orc k g args H=some r)(hj:hget j H≠none)
  (hn:env.quiet g=false->has j (reach H 99 ((a5s (env.argTags g) (env.a9z g) args).flatMap (a3W dep)) [])=false):hget j r.heap=hget j H:=by
 rcases a8I h with⟨h1,_⟩ |⟨_,_,v,H4,h1,rfl,h3⟩
 ·exact c1f h1 hj hn
 rfl
theorem c8d (h:a4C env orc k g args H=some r):∃r0,a0e env orc k g args H=some r0:=by
 rcases a8I h with⟨h1,_⟩ |⟨_,_,v,H4,h1,rfl,h3⟩
 ·exact⟨_,h1⟩
 exact⟨_,h1⟩
end
variable {K:Hp} {j k t xt:Nat} {r:OpR} {o x y:Oper} {s v:V}
section
variable {env:Env} {orc:Orc} {ops:Array Oper} {L sl:List Nat} {fr fr':Fr} {H H':Hp}
def a3w (env:Env)(orc:Orc)(L sl:List Nat)(ops:Array Oper)(o:Oper)(fr:Fr)(H:Hp):Option (V×Hp) :=
 match G6 ops o fr with
 | none=>none
 | some false=>some (.tuple [],H)
 | some true=>match a6m env L sl fr H o with
  | false=>none
  | true=>match U0 env orc fr H o with
   | some (.val v H)=>some (v,H)
   | _=>none
def b4j (env:Env)(orc:Orc)(L sl:List Nat)(ops:Array Oper)(o:Oper)(fr:Fr)(H:Hp)(v:V)(H':Hp):Prop :=G6 ops o fr=some true/\a6m env L sl fr H o=true/\U0 env orc fr H o=some (.pan v H')
theorem a0B {l:List Oper}{r:Res}:M9 env orc L sl ops (o::l) fr H=some r ↔
  (∃v H',a3w env orc L sl ops o fr H=some (v,H')/\M9 env orc L sl ops l (Y5 o.dst v fr) H'=some r) ∨ ∃v H',b4j env orc L sl ops o fr H v H'/\r =(.panic v,fr,H'):=by
 simp only[M9,a3w,b4j];grind
theorem a9e:∀{l:List Oper} {fr:Fr} {H:Hp} {r:Res},M9 env orc L sl ops l fr H=some r->M7 env orc ops l fr H=some r
 | [],fr,H,r,h=>h
 | o::l,fr,H,r,h=>by
  simp only[M9,M7]at h ⊢;cases hw:G6 ops o fr with
  | none=>grind
  | some b =>
   rw[hw]at h;cases b with
   | false=>exact a9e h
   | true =>
    cases hp:a6m env L sl fr H o with
    | false=>grind
    | true =>
     rw[hp]at h;cases ho:U0 env orc fr H o with
     | none=>grind
     | some x =>
      rw[ho]at h;cases x with
      | val v H1=>exact a9e h
      | pan v H1=>exact h
theorem a7b {H':Hp}:a3w env orc L sl ops o fr H=some (v,H')↔opV env orc ops o fr H=some (v,H')/\(G6 ops o fr=some true->a6m env L sl fr H o=true):=by
 simp only[a3w,opV];grind
theorem c7u {x:Operand}(h:∀t∈o.looksAt ops,look t fr=look t fr')(hx:x∈o.op.operands.toList):ev fr x=ev fr' x:=by
 cases x with
 | tmp t=>simp only[ev];rw[h t (List.mem_append_left _ zGr)]
 | _=>rfl
theorem b59 (h:∀t∈o.looksAt ops,look t fr=look t fr'):G6 ops o fr=G6 ops o fr':=by
 unfold G6;cases hg:o.guard with
 | none=>rfl
 | some p =>
  obtain⟨j,want⟩:=p;simp only[b3G];cases hd:(ops[j]?).bind (·.dst)with
  | none=>rfl
  | some t=>simp only;rw[h t (by simp[Oper.looksAt,hg,hd])]
theorem b5C (h:∀t∈o.looksAt ops,look t fr=look t fr'):U0 env orc fr H o=U0 env orc fr' H o:=by
 have hop:∀x∈o.op.operands.toList,ev fr x=ev fr' x:=fun x hx=>c7u h hx;simp only[U0,b7f hop,b67 hop]
theorem c4M (h:∀t∈o.looksAt ops,look t fr=look t fr'):touch env fr H o=touch env fr' H o:=by
 have hop:∀x∈o.op.operands.toList,ev fr x=ev fr' x:=fun x hx=>c7u h hx;unfold touch;split
 ·rename_i args at_ heq;rw[heq]at hop;have h2:evL fr args.toList=evL fr' args.toList:=a6Y fun x hx=>hop x (by simp only[Op.operands,Call.operands];grind);rw[h2]
 ·rename_i f args at_ heq;rw[heq]at hop;have h1 :=hop f (by simp[Op.operands,Call.operands]);have h2:evL fr args.toList=evL fr' args.toList:=a6Y fun x hx=>hop x (by simp only[Op.operands,Call.operands];grind);grind
 rfl
theorem b69 (h:∀t∈o.looksAt ops,look t fr=look t fr'):a6m env L sl fr H o=a6m env L sl fr' H o:=by
 unfold a6m;rw[c4M h];cases hs:b1F o with
 | some t =>
  simp only;have:t∈o.looksAt ops:=by
   unfold b1F at hs;split at hs
   ·rename_i ty t' x he;cases hs;refine List.mem_append_left _ (List.mem_filterMap.2 ⟨.tmp t,?_,rfl⟩);rw[he];simp[Op.operands]
   grind
  grind
 | none =>
  cases hl:a6I o with
  | none=>rfl
  | some t=>simp only;rw[h t (c3B hl)]
theorem b1V (h:∀t∈o.looksAt ops,look t fr=look t fr'):a3w env orc L sl ops o fr H=a3w env orc L sl ops o fr' H:=by
 simp only[a3w,b59 h,b69 h,b5C h]
theorem b2N (h:∀t∈o.looksAt ops,look t fr=look t fr')(hp:b4j env orc L sl ops o fr H v H'):b4j env orc L sl ops o fr' H v H':=by
 unfold b4j at hp ⊢;rw[<-b59 h,<-b69 h,<-b5C h];grind
theorem b0r:∀{l:List Oper} {fr fr':Fr} {H:Hp} {ex:Ex} {f1:Fr} {H1:Hp},b0H fr fr'->M9 env orc L sl ops l fr H=some (ex,f1,H1) -> ∃f2,M9 env orc L sl ops l fr' H=some (ex,f2,H1)/\b0H f1 f2
 | [],fr,fr',H,ex,f1,H1,e,h=>by
  simp only[M9,Option.some.injEq,Prod.mk.injEq]at h ⊢;grind
 | o::r,fr,fr',H,ex,f1,H1,e,h=>by
  rcases a0B.1 h with⟨v,H',h1,h2⟩ |⟨v,H',h1,h2⟩
  ·rw[b1V  fun t _=>e t]at h1;obtain⟨f2,h3,h4⟩:=b0r (fr':=Y5 o.dst v fr') (fun t=>by rw[a5R,a5R,e t]) h2;exact⟨f2,a0B.2 zGr,h4⟩
  obtain⟨rfl,rfl,rfl⟩:=h2;exact⟨fr',a0B.2 (.inr ⟨v,H1,b2N (fun t _=>e t) h1,rfl⟩),e⟩
def c0m (sl:List Nat)(o:Oper):Bool:=match a6I o with
 | some t=>has t sl
 | none=>false
def c3t (sl:List Nat)(o:Oper):Bool:=match b1F o with
 | some t=>has (t+1000000) sl
 | none=>false
def a8H (env:Env)(ops:Array Oper)(sl:List Nat)(x y:Oper):Bool:=x.apart ops y&&((Q6 x.op||Q6 y.op ||(a92 env x.op&&a92 env y.op)) ||((c0m sl x&&(b0M y||a6d y||b3a y||c3t sl y)) ||((b0M x&&a6d y||a6d x&&a6d y) && !Nat.beq (newName x) (newName y))))
theorem b66 (o:Oper):∃a,newName o=64*a:=by
 unfold newName;split
 ·exact⟨_,rfl⟩
 exact⟨1,rfl⟩
theorem b3g (h:Nat.beq (newName x) (newName y)=false):∀i,i<64->newName x+i≠newName y:=by
 intro i hi he;obtain⟨a,ha⟩:=b66 x;obtain⟨b,hb⟩:=b66 y;have:i=0:=zOm;simp_all
theorem c6n (h:Q6 o.op=true):b0M o=false/\a6d o=false/\a6I o=none/\b3a o=false/\b1F o=none:=by
 obtain⟨dst,op,type,pos,after,guard⟩:=o;refine⟨?_,?_,?_,?_,?_⟩
 ·unfold b0M;simp at h ⊢;split
  ·cases h
  rfl
 ·unfold a6d;simp at h ⊢;split
  ·cases h
  rfl
 ·unfold a6I;simp at h ⊢;split
  ·cases h
  rfl
 ·unfold b3a;simp at h ⊢;split
  ·cases h
  ·cases h
  rfl
 unfold b1F;simp at h ⊢;split
 ·cases h
 rfl
theorem c6l (h:Q6 o.op=true):a6m env L sl fr H o=true:=by
 obtain⟨h1,h2,h3,h4,h5⟩:=c6n h;simp[a6m,h1,h2,h3,h4,h5]
theorem b1n (hp:Q6 o.op=true)(h:a3w env orc L sl ops o fr H=some (v,H')):H'=H /\ ∀K,a3w env orc L sl ops o fr K=some (v,K):=by
 obtain⟨h1,_⟩:=a7b.1 h;obtain⟨rfl,g⟩:=b8Z hp h1;exact⟨rfl,fun K=>a7b.2 ⟨g K,fun _=>c6l hp⟩⟩
theorem b8v {α:Type}{x:Option α}:isSome x=true↔x≠none:=by cases x<;>simp[isSome]
theorem b2O (h:a6d o=true):b0M o=false/\a6I o=none/\Q6 o.op=false:=by
 obtain⟨t,ho⟩:=b4k h;refine⟨?_,?_,?_⟩
 ·unfold b0M;rw[ho]
 ·unfold a6I;rw[ho]
 rw[ho];rfl
theorem touch_al (h:a6d o=true):touch env fr H o=[]:=by
 obtain⟨t,ho⟩:=b4k h;unfold touch;rw[ho]
theorem b9c (h:a6d o=true):a6m env L sl fr H o=L.all fun r=>isSome (hget r H):=by
 unfold a6m;rw[h,Bool.or_true,Bool.true_or];simp only[touch_al h,has,Bool.not_false,Bool.true_and]
theorem a95 (ha:a6d o=true)(h:a3w env orc L sl ops o fr H=some (v,H')) :
  (G6 ops o fr=some false/\H'=H /\ ∀K,a3w env orc L sl ops o fr K=some (v,K)) ∨
  ∃x,(L.all fun r=>isSome (hget r H))=true/\hget (newName o) H=none/\H'=hset (newName o) x H /\ ∀K,hget (newName o) K=none ->(L.all fun r=>isSome (hget r K))=true->a3w env orc L sl ops o fr K=some (v,hset (newName o) x K):=by
 obtain⟨t,ho⟩:=b4k ha;obtain⟨h1,h2⟩:=a7b.1 h;cases hw:G6 ops o fr with
 | none=>simp only[a3w,hw]at h;cases h
 | some b =>
  cases b with
  | false =>
   refine .inl ⟨rfl,?_,fun K=>?_⟩
   ·simp only[a3w,hw,Option.some.injEq,Prod.mk.injEq]at h;grind
   simp only[a3w,hw,Option.some.injEq,Prod.mk.injEq]at h ⊢;grind
  | true =>
   have h2:=h2 hw;rw[b9c ha]at h2;rcases b6y ho h1 with⟨rfl,g⟩ |⟨x,g1,rfl,g2⟩
   ·
    have hp:=(b2O ha).2.2;simp only[opV,hw,U0,hp]at h1;have he:X6 env orc fr H' o=match O7 t env.T,hget (newName o) H' with|some y,none=>some (.val (.ptr (newName o) 0) (hset (newName o) (.row y.zero) H'))|_,_=>none:=by
     unfold X6;grind
    rw[he]at h1;cases ht:O7 t env.T with
    | none=>grind
    | some y =>
     rw[ht]at h1;cases hg:hget (newName o) H' with
     | some z=>grind
     | none =>
      rw[hg]at h1;simp at h1;have:=congrArg (hget (newName o)) h1.2;rw[F4,if_pos rfl,hg]at this;grind
   exact .inr ⟨x,h2,g1,rfl,fun K hK hL=>a7b.2 ⟨g2 K hK,fun _=>by rw[b9c ha];omega⟩⟩
theorem cl_op (h:b0M o=true):∃f args at_,o.op=.call ⟨.value f,args,at_⟩:=by
 unfold b0M at h;grind
theorem cl_kinds (h:b0M o=true):a6d o=false/\a6I o=none/\Q6 o.op=false:=by
 obtain⟨f,args,at_,ho⟩:=cl_op h;refine⟨?_,?_,?_⟩
 ·unfold a6d;rw[ho]
 ·unfold a6I;rw[ho]
 rw[ho];rfl
theorem c68 (h:b0M o = true) (hs:U0 env orc fr H o = some r) :
    ∃g l,a4C env orc (newName o) g l H=some r/\(∀K,U0 env orc fr K o=a4C env orc (newName o) g l K) /\ ∀K,touch env fr K o=match env.quiet g with|true=>[]|false=>reach K 99 ((a5s (env.argTags g) (env.a9z g) l).flatMap (a3W dep)) []:=by
  obtain⟨f,args,at_,ho⟩:=cl_op h;have hp:=(cl_kinds h).2.2;have he:∀ K,U0 env orc fr K o = match ev fr f,evL fr args.toList with
      | some (.func (.func g) first captured),some l=>a4C env orc (newName o) g (first++l++captured) K
      | _,_=>none:=by
    intro K;simp only[U0,hp];unfold X6;grind
  rw[he]at hs;split at hs
  · rename_i g first captured l h1 h2
    refine⟨g,first++l++captured,hs,fun K=>?_,fun K=>?_⟩
    · grind
    unfold touch;grind
  grind
theorem b3s (h:b0M o=true):a6m env L sl fr H o=L.all fun r=>!has r (touch env fr H o)&&isSome (hget r H):=by
 unfold a6m;grind
theorem c6E {T:List (Nat×Ty)}{x:V}(h:a6S T t xt s x H k=some (.pan v K)):False:=by
 unfold a6S at h;repeat' (split at h)
 all_goals first
  | grind
  |(obtain⟨_,h⟩:=O3 h;grind)
theorem c7n {g:Nat}(h:has j [g]=false):j≠g:=by
 rintro rfl;simp[has]at h
theorem c89 {T:List (Nat×Ty)}{x:V}(h:a6S T t xt s x H k=some (.val v K))(h1:has j (a3W dep s)=false)(h2:hget j H≠none):hget j K=hget j H:=by
 have hk:∀{o},hget k H=o->o=none->j≠k:=fun e e2 ej=>h2 zGr;unfold a6S at h;split at h
 ·cases h
 ·cases h
 split at h
 ·split at h
  ·split at h
   ·split at h
    ·split at h
     ·cases h
     rename_i he;obtain⟨_,h⟩:=O3 h;cases h;rw[F4,if_neg (hk he rfl)]
    ·split at h
     ·cases h
     rename_i he;obtain⟨_,h⟩:=O3 h;cases h;rw[F4,if_neg (hk he rfl)]
    ·grind
    ·grind
    grind
   split at h
   ·split at h
    ·obtain⟨_,h⟩:=O3 h;cases h;rw[F4,if_neg (c7n h1)]
    grind
   ·cases h
   ·split at h
    ·cases h
    rename_i he;obtain⟨_,h⟩:=O3 h;cases h;rw[F4,if_neg (hk he rfl)]
   ·split at h
    ·rename_i he;obtain⟨_,h⟩:=O3 h;cases h;rw[F4,if_neg (c7n h1),F4,if_neg (hk he rfl)]
    grind
   grind
  grind
 grind
theorem box_keep (ho:b3a o=true)(h:a3w env orc L sl ops o fr H=some (v,H'))(hj:has j L=true):hget j H'=hget j H:=by
 have hcase:(∃t x,o.op=.box t x) ∨ ∃args at_,o.op=.call ⟨.builtin .append,args,at_⟩:=by
  unfold b3a at ho;grind
 obtain⟨h1,h2⟩:=a7b.1 h;cases hw:G6 ops o fr with
 | none=>simp only[a3w,hw]at h;cases h
 | some b =>
  cases b with
  | false=>simp only[a3w,hw,Option.some.injEq,Prod.mk.injEq]at h;grind
  | true =>
   have hp:=h2 hw;unfold a6m at hp;rw[ho,Bool.or_true]at hp;have hp:=(List.all_eq_true.1 hp) j (b0t.1 hj);simp at hp;rcases hcase with⟨t,x,hop⟩ |⟨args,at_,hop⟩
   case inr =>
    have hpu:Q6 o.op=false:=by rw[hop];rfl
    simp only[opV,hw,U0,hpu]at h1;unfold X6 at h1;unfold touch at hp;rw[hop]at h1 hp;simp at h1 hp;split at h1
    ·rename_i r he;split at he
     ·rename_i a b t u ea et;rw[ea]at hp;simp only[evL,a2r]at hp;split at he
      ·rename_i s x e1 e2;rw[e1,e2]at hp;simp at hp;obtain⟨rfl,rfl⟩:=h1;refine c89 he ?_ (b8v.1 hp.2);have:=hp.1;rcases hh:has j _ with _|_
       ·rfl
       have h3:has j (a3W dep s++a3W dep x)=true:=b0t.2 (List.mem_append_left _ (b0t.1 hh));grind
      grind
     grind
    grind
   have hpu:Q6 o.op=false:=by rw[hop];rfl
   simp only[opV,hw,U0,hpu]at h1;unfold X6 at h1;rw[hop]at h1;simp at h1;split at h1
   ·rename_i r he;split at he
    ·rename_i y v' _ hg _;split at he
     ·cases he;simp only[Option.some.injEq,Prod.mk.injEq]at h1;obtain⟨rfl,rfl⟩:=h1;rw[F4,if_neg];rintro rfl;have:=hp.2;rw[hg]at this;cases this
     cases he
    cases he
   cases h1
theorem c4N {T:List (Nat×Ty)}{r off:Nat}(h:a7e T t (.ptr r off) v H=some K)(hj:j≠r):hget j K=hget j H:=by
 unfold a7e at h;split at h
 ·rename_i heq;cases heq;split at h
  ·split at h
   ·simp only[gd]at h;split at h
    ·cases h;rw[F4,if_neg hj]
    grind
   ·split at h
    ·simp only[gd]at h;split at h
     ·cases h;rw[F4,if_neg hj]
     grind
    grind
   grind
  grind
 grind
theorem c6B (ho:c3t sl o=true)(h:a3w env orc L sl ops o fr H=some (v,H'))(hj:has j L=true):hget j H'=hget j H:=by
 unfold c3t at ho;cases hs:b1F o with
 | none=>grind
 | some t =>
  rw[hs]at ho;obtain⟨ty,x,hop⟩:∃ty x,o.op=.store ty (.tmp t) x:=by
   unfold b1F at hs;grind
  obtain⟨h1,h2⟩:=a7b.1 h;cases hw:G6 ops o fr with
  | none=>simp only[a3w,hw]at h;cases h
  | some b =>
   cases b with
   | false=>simp only[a3w,hw,Option.some.injEq,Prod.mk.injEq]at h;grind
   | true =>
    have hp:=h2 hw;have k1:b0M o=false:=by unfold b0M;grind
    have k2:a6d o=false:=by unfold a6d;grind
    have k3:b3a o=false:=by unfold b3a;grind
    unfold a6m at hp;rw[k1,k2,k3,hs]at hp;simp only[Bool.or_false,ho]at hp;have hpu:Q6 o.op=false:=by rw[hop];rfl
    simp only[opV,hw,U0,hpu]at h1;unfold X6 at h1;rw[hop]at h1;simp only[ev]at h1;cases hl:look t fr with
    | ptr r off =>
     rw[hl]at hp h1;have hne:j≠r:=by
      rintro rfl;simp only[c7e,hj]at hp;grind
     split at h1
     ·rename_i q he;split at he
      ·rename_i hh1 hh2;simp at hh1;subst hh1;split at he
       ·rename_i K hK;cases he;obtain⟨rfl,rfl⟩:=h1;exact c4N hK hne
       grind
      grind
     grind
    | _=>rw[hl]at hp;cases hp
theorem c8U (ho:(b0M o||a6d o||b3a o||c3t sl o)=true)(h:a3w env orc L sl ops o fr H=some (v,H'))(hj:has j L=true):hget j H'=hget j H:=by
 cases hb:b3a o with
 | true=>exact box_keep hb h hj
 | false =>
 cases hst:c3t sl o with
 | true=>exact c6B hst h hj
 | false =>
 rw[hb,hst,Bool.or_false,Bool.or_false]at ho;cases ha:a6d o with
 | true =>
  rcases a95 ha h with⟨_,rfl,_⟩ |⟨x,h1,h2,rfl,_⟩
  ·rfl
  have:=(List.all_eq_true.1 h1) j (b0t.1 hj);rw[F4,if_neg];rintro rfl;rw[h2]at this;cases this
 | false =>
  rw[ha,Bool.or_false]at ho;obtain⟨h1,h2⟩:=a7b.1 h;cases hw:G6 ops o fr with
  | none=>simp only[a3w,hw]at h;cases h
  | some b =>
   cases b with
   | false=>simp only[a3w,hw,Option.some.injEq,Prod.mk.injEq]at h;grind
   | true =>
    have hp:=h2 hw;rw[b3s ho]at hp;have hp:=(List.all_eq_true.1 hp) j (b0t.1 hj);simp at hp;simp only[opV,hw]at h1;cases hs:U0 env orc fr H o with
    | none=>grind
    | some r =>
     rw[hs]at h1;cases r with
     | pan _ _=>grind
     | val v' K =>
      obtain⟨rfl,rfl⟩:=h1;obtain⟨g,l,g1,g2,g3⟩:=c68 ho hs;refine c5j g1 (b8v.1 hp.2) fun hq=>?_;grind
theorem b1j (hl:c0m sl o=true)(h:a3w env orc L sl ops o fr H=some (v,H'))(hK:∀j,has j L=true->hget j K=hget j H):H'=H/\a3w env orc L sl ops o fr K=some (v,K):=by
 unfold c0m at hl;cases ht:a6I o with
 | none=>grind
 | some t =>
  rw[ht]at hl;have ho:∃ty,o.op=.load ty (.tmp t):=by
   unfold a6I at ht;grind
  obtain⟨ty,ho⟩:=ho;have k1:b0M o=false:=by unfold b0M;rw[ho]
  have k2:a6d o=false:=by unfold a6d;rw[ho]
  have k3:b3a o=false:=by unfold b3a;rw[ho]
  have k4:b1F o=none:=by unfold b1F;rw[ho]
  have hpr:∀G,a6m env L sl fr G o=c56 L (look t fr):=fun G=>by
   unfold a6m;grind
  have hp:Q6 o.op=false:=by rw[ho];rfl
  have he:∀G,U0 env orc fr G o=match a6s env.T ty (look t fr) G with|some v=>some (.val v G)|none=>none:=fun G=>by
   simp only[U0,hp];unfold X6;rw[ho];rfl
  have hsame:c56 L (look t fr)=true->a6s env.T ty (look t fr) K=a6s env.T ty (look t fr) H:=fun hk=>by
   unfold a6s;cases hv:look t fr with
   | ptr r off =>
    rw[hv]at hk;cases O7 ty env.T with
    | none=>rfl
    | some y=>simp only;rw[hK r hk]
   | cptr cs=>grind
   | _=>grind
  simp only[a3w,hpr,he]at h ⊢;cases hw:G6 ops o fr with
  | none=>grind
  | some b =>
   rw[hw]at h;cases b with
   | false=>grind
   | true =>
    grind
theorem b6x (hc:a92 env o.op=true)(h:a3w env orc L sl ops o fr H=some (v,H')):H'=H:=b8Y hc (a7b.1 h).1
theorem b4l {o:Obj}(h:(L.all fun r=>isSome (hget r H))=true):(L.all fun r=>isSome (hget r (hset k o H)))=true:=by
 rw[List.all_eq_true]at h ⊢;intro r hr;rw[F4];split
 ·rfl
 grind
theorem c5q (hc:b0M o=true){x:Obj}(hp:a6m env L sl fr H o=true)(hs:U0 env orc fr H o=some r)(hk:hget k r.heap=none)(hne:∀i,i<64->newName o+i≠k) :
  a6m env L sl fr (hset k x H) o=true/\U0 env orc fr (hset k x H) o=some (r.add k x)/\hget k H=none:=by
 obtain⟨g,l,g1,g2,g3⟩:=c68 hc hs;have hk0:=c8c g1 hk;refine⟨?_,by rw[g2];exact c8b g1 hk hne,hk0⟩;rw[b3s hc,List.all_eq_true]at hp ⊢;have ht:touch env fr (hset k x H) o=touch env fr H o:=by
  rw[g3,g3];cases hq:env.quiet g with
  | true=>rfl
  | false =>
   obtain⟨r0,g0⟩:=c8d g1;obtain⟨ns,a2,H2,H3,v,v4,h1,h2,h3,_⟩:=a9C hq g0;refine b1y (b51 hk0) _ _ _ ?_;rw[h1];exact(b31 (b51 hk0 (o:=x)) h3).2
 intro j hj;have:=hp j hj;simp at this ⊢;rw[ht];refine⟨this.1,?_⟩;rw[F4];split
 ·rfl
 grind
theorem swapP (hc:a8H env ops sl x y=true){vx vy:V}{Hx Hy:Hp}(h1:a3w env orc L sl ops x fr H=some (vx,Hx))(h3:a3w env orc L sl ops y (Y5 x.dst vx fr) Hx=some (vy,Hy)) :
  ∃K,a3w env orc L sl ops y fr H=some (vy,K)/\a3w env orc L sl ops x (Y5 y.dst vy fr) K=some (vx,Hy):=by
 simp only[a8H,Bool.and_eq_true]at hc;obtain⟨ha,hc⟩:=hc;obtain⟨a1,a2,a3⟩:=Oper.apart_spec ha;have e1:a3w env orc L sl ops y (Y5 x.dst vx fr) Hx=a3w env orc L sl ops y fr Hx:=b1V fun t ht=>by
  rw[a5R,if_neg];grind
 have e2:∀K,a3w env orc L sl ops x (Y5 y.dst vy fr) K=a3w env orc L sl ops x fr K:=fun K=>b1V fun t ht=>by
  rw[a5R,if_neg];grind
 rw[e1]at h3;simp only[e2];simp at hc;rcases hc with((hc|hc) |⟨hc,hc'⟩) |(⟨hc,hc'⟩ |⟨hc,hn⟩)
 ·obtain⟨rfl,g⟩:=b1n hc h1;grind
 ·obtain⟨rfl,g⟩:=b1n hc h3;grind
 ·have:=b6x hc h1;subst this;have:=b6x hc' h3;grind
 ·have hx:=(b1j hc h1 (fun _ _=>rfl)).1;subst hx;exact⟨Hy,h3,(b1j hc h1 fun j hj=>c8U zGr h3 hj).2⟩
 have hay:a6d y=true:=by grind
 rcases a95 hay h3 with⟨_,rfl,g⟩ |⟨z,g1,g2,rfl,g3⟩
 ·grind
 rcases hc with⟨hcx,_⟩ |⟨hax,_⟩
 ·obtain⟨p1,p2⟩:=a7b.1 h1;cases hw:G6 ops x fr with
  | none=>simp only[a3w,hw]at h1;grind
  | some b =>
   cases b with
   | false =>
    simp only[a3w,hw,Option.some.injEq,Prod.mk.injEq]at h1;obtain⟨rfl,rfl⟩:=h1;exact⟨_,g3 _ g2 g1,by simp only[a3w,hw]⟩
   | true =>
    have hp:=p2 hw;simp only[opV,hw]at p1;cases hs:U0 env orc fr H x with
    | none=>grind
    | some r =>
     rw[hs]at p1;cases r with
     | pan _ _=>grind
     | val v' K =>
      obtain⟨rfl,rfl⟩:=p1;obtain⟨q1,q2,q3⟩:=c5q (x:=z) hcx hp hs g2 (b3g hn);refine⟨_,g3 H q3 ?_,?_⟩
      ·have:=hp;rw[b3s hcx,List.all_eq_true]at this;grind
      simp only[a3w,hw,q1,q2];rfl
 rcases a95 hax h1 with⟨_,rfl,g4⟩ |⟨u,k1,k2,rfl,k3⟩
 ·exact⟨_,g3 _ g2 g1,g4 _⟩
 have hne:newName y≠newName x:=by
  intro he;rw[he]at hn;simp at hn
 rw[F4,if_neg hne]at g2;refine⟨_,g3 H g2 k1,?_⟩;rw[b1f hne];exact k3 _ (by rw[F4,if_neg (Ne.symm hne)];exact k2) (b4l k1)
def isSto (o:Oper):Bool:=match b1F o with
 | some _=>true
 | none=>false
def b4P (o:Oper):Bool:=!Q6 o.op && !(isLd o||b3a o||isSto o) && !(a6d o)
theorem c1S (h:b4j env orc L sl ops o fr H v H'):b4P o=true:=by
 obtain⟨_,_,h⟩:=h;unfold b4P;cases hp:Q6 o.op with
 | true =>
  simp only[U0,hp]at h;grind
 | false =>
  simp only[U0,hp]at h;cases hbx:b3a o with
  | true =>
   have hcase:(∃t x,o.op=.box t x) ∨ ∃args at_,o.op=.call ⟨.builtin .append,args,at_⟩:=by
    unfold b3a at hbx;grind
   unfold X6 at h;rcases hcase with⟨t,x,hop⟩ |⟨args,at_,hop⟩
   ·grind
   rw[hop]at h;simp only at h;split at h
   ·split at h
    ·exact absurd h (fun h=>c6E h)
    grind
   grind
  | false =>
  cases hsto:isSto o with
  | true =>
   obtain⟨ty,t,x,hop⟩:∃ty t x,o.op=.store ty (.tmp t) x:=by
    unfold isSto at hsto;cases hs:b1F o with
    | none=>grind
    | some t =>
     unfold b1F at hs;grind
   unfold X6 at h;grind
  | false =>
  cases hl:isLd o with
  | true =>
   obtain⟨t,ht⟩:=b6q hl;have ho:∃ty,o.op=.load ty (.tmp t):=by
    unfold a6I at ht;grind
   obtain⟨ty,ho⟩:=ho;unfold X6 at h;grind
  | false =>
   cases ha:a6d o with
   | true =>
    obtain⟨t,ho⟩:=b4k ha;unfold X6 at h;grind
   | false=>rfl
end
variable {z:Obj} {x y:Oper} {v:V}
section
variable {env:Env} {orc:Orc} {ops:Array Oper} {L sl:List Nat} {fr fr':Fr} {H H':Hp}
theorem a7h {l:List Oper}{r:Res}:∀{A:List Oper} {fr:Fr} {H:Hp},M9 env orc L sl ops (A++l) fr H=some r ↔
  (∃fA HA,M9 env orc L sl ops A fr H=some (.normal,fA,HA)/\M9 env orc L sl ops l fA HA=some r) ∨ ∃v f H',M9 env orc L sl ops A fr H=some (.panic v,f,H')/\r =(.panic v,f,H')
 | [],fr,H=>by
  simp only[List.nil_append,M9,Option.some.injEq,Prod.mk.injEq,true_and,reduceCtorEq,false_and,exists_false,or_false];grind
 | o::A,fr,H=>by
  rw[List.cons_append,a0B];constructor
  ·rintro(⟨v,H',h1,h2⟩ |⟨v,H',h1,h2⟩)
   ·rcases a7h.1 h2 with⟨fA,HA,h3,h4⟩ |⟨v',f,K,h3,h4⟩
    ·exact .inl ⟨fA,HA,a0B.2 zGr,h4⟩
    exact .inr ⟨v',f,K,a0B.2 zGr,h4⟩
   exact .inr ⟨v,fr,H',a0B.2 zGr,h2⟩
  rintro(⟨fA,HA,h1,h2⟩ |⟨v',f,K,h1,h2⟩)
  ·rcases a0B.1 h1 with⟨v,H',h3,h4⟩ |⟨v,H',h3,h4⟩
   ·exact .inl ⟨v,H',h3,a7h.2 zGr⟩
   grind
  rcases a0B.1 h1 with⟨v,H',h3,h4⟩ |⟨v,H',h3,h4⟩
  ·exact .inl ⟨v,H',h3,a7h.2 zGr⟩
  grind
theorem c4r (ha:x.apart ops y=true)(vx vy:V)(fr:Fr):b0H (Y5 y.dst vy (Y5 x.dst vx fr)) (Y5 x.dst vx (Y5 y.dst vy fr)):=by
 obtain⟨a1,a2,a3⟩:=Oper.apart_spec ha;intro t;simp only[a5R];grind
theorem b2V (h:a8H env ops sl x y=true):x.apart ops y=true:=by
 simp only[a8H,Bool.and_eq_true]at h;grind
theorem c60 {y:Oper}:∀{A:List Oper} {fr fA:Fr} {H HA:Hp} {vy:V} {Hy:Hp},(∀x∈A,a8H env ops sl x y=true)->M9 env orc L sl ops A fr H=some (.normal,fA,HA)->a3w env orc L sl ops y fA HA=some (vy,Hy) ->
  ∃K f',a3w env orc L sl ops y fr H=some (vy,K)/\M9 env orc L sl ops A (Y5 y.dst vy fr) K=some (.normal,f',Hy)/\b0H (Y5 y.dst vy fA) f'
 | [],fr,fA,H,HA,vy,Hy,_,h1,h2=>by
  obtain⟨rfl,rfl⟩:=h1;exact⟨Hy,_,h2,rfl,.refl _⟩
 | x::A,fr,fA,H,HA,vy,Hy,hc,h1,h2=>by
  rcases a0B.1 h1 with⟨vx,Hx,h3,h4⟩ |⟨_,_,_,h4⟩
  ·obtain⟨K,f',h5,h6,h7⟩:=c60 zGr h4 h2;obtain⟨K',h8,h9⟩:=swapP zGr h3 h5;obtain⟨f2,h10,h11⟩:=b0r (c4r (b2V (hc x zGr)) vx vy fr) h6;exact⟨K',f2,h8,a0B.2 zGr,h7.trans h11⟩
  grind
theorem neutral (hc:a8H env ops sl x y=true)(hp:Q6 y.op=false)(ha:a6d y=false)(h:a3w env orc L sl ops x fr H=some (v,H')):H'=H:=by
 simp only[a8H,Bool.and_eq_true,Bool.or_eq_true,hp,ha]at hc;rcases hc.2 with((hc|hc) |⟨hc,_⟩) |(⟨hc,_⟩ |⟨hc,_⟩)
 ·exact(b1n hc h).1
 ·grind
 ·exact b6x hc h
 ·exact(b1j hc h (fun _ _=>rfl)).1
 grind
theorem c66 {y:Oper}(hyp:Q6 y.op=false)(hya:a6d y=false){v:V}:∀{A:List Oper} {fr fA:Fr} {H HA:Hp},(∀x∈A,a8H env ops sl x y=true)->M9 env orc L sl ops A fr H=some (.normal,fA,HA)->b4j env orc L sl ops y fA HA v H' ->
  b4j env orc L sl ops y fr H v H'
 | [],fr,fA,H,HA,_,h1,h2=>by
  obtain⟨rfl,rfl⟩:=h1;grind
 | x::A,fr,fA,H,HA,hc,h1,h2=>by
  rcases a0B.1 h1 with⟨vx,Hx,h3,h4⟩ |⟨_,_,_,h4⟩
  ·have h5:=c66 hyp hya zGr h4 h2;have hx:=hc x zGr;have:=neutral hx hyp hya h3;subst this;obtain⟨a1,_,_⟩:=Oper.apart_spec (b2V hx);exact b2N (fun t ht=>by rw[a5R,if_neg];grind) h5
  grind
theorem frameN (hc:a8H env ops sl x y=true)(hy:a6d y=true)(h:a3w env orc L sl ops x fr H=some (v,H'))(hk:hget (newName y) H'=none) :
  a3w env orc L sl ops x fr (hset (newName y) z H)=some (v,hset (newName y) z H')/\hget (newName y) H=none:=by
 simp only[a8H,Bool.and_eq_true]at hc;have hyp:=(b2O hy).2.2;have hc:=hc.2;simp only[Bool.or_eq_true,Bool.and_eq_true,hyp,Bool.not_eq_true']at hc;have hyc:a92 env y.op=false:=by obtain⟨t,ho⟩:=b4k hy;rw[ho];rfl
 rcases hc with((hc|hc) |⟨_,hc⟩) |(⟨hc,_⟩ |⟨hc,hn⟩)
 ·obtain⟨rfl,g⟩:=b1n hc h;grind
 ·grind
 ·grind
 ·have hx:=(b1j hc h (fun _ _=>rfl)).1;subst hx;refine⟨?_,hk⟩;unfold c0m at hc;cases ht:a6I x with
  | none=>grind
  | some t =>
   have ho:∃ty,x.op=.load ty (.tmp t):=by
    unfold a6I at ht;grind
   obtain⟨ty,ho⟩:=ho;have k1:b0M x=false:=by unfold b0M;rw[ho]
   have k2:a6d x=false:=by unfold a6d;rw[ho]
   have k3:b3a x=false:=by unfold b3a;rw[ho]
   have hpr:∀G,a6m env L sl fr G x=a6m env L sl fr H' x:=fun G=>by unfold a6m;grind
   have hp:Q6 x.op=false:=by rw[ho];rfl
   have he:∀G,U0 env orc fr G x=match a6s env.T ty (look t fr) G with|some v=>some (.val v G)|none=>none:=fun G=>by
    simp only[U0,hp];unfold X6;rw[ho];rfl
   simp only[a3w,he]at h ⊢;rw[hpr];cases hw:G6 ops x fr with
   | none=>grind
   | some b =>
    rw[hw]at h;cases b with
    | false=>grind
    | true =>
     cases hq:a6m env L sl fr H' x with
     | false=>grind
     | true =>
      rw[hq]at h;have hv:∀u,a6s env.T ty (look t fr) H'=some u->a6s env.T ty (look t fr) (hset (newName y) z H')=some u:=by
       intro u hu;unfold a6s at hu ⊢;cases hl:look t fr with
       | ptr r off =>
        rw[hl]at hu;cases hT:O7 ty env.T with
        | none=>grind
        | some yy =>
         rw[hT]at hu;simp at hu ⊢;have:hget r (hset (newName y) z H')=hget r H':=by
          rw[F4,if_neg];rintro rfl;rw[hk]at hu;cases hu
         rw[this];exact hu
       | cptr cs=>rw[hl]at hu;cases hT:O7 ty env.T<;>(rw[hT]at hu;exact hu)
       | _=>rw[hl]at hu;cases hT:O7 ty env.T<;>(rw[hT]at hu;cases hu)
      cases hu:a6s env.T ty (look t fr) H' with
      | none=>rw[hu]at h;cases h
      | some u =>
       rw[hu]at h;rw[hv u hu];simp only[Option.some.injEq,Prod.mk.injEq]at h ⊢;exact⟨h.1,trivial⟩
 rcases hc with⟨hcx,_⟩ |⟨hax,_⟩
 ·obtain⟨p1,p2⟩:=a7b.1 h;cases hw:G6 ops x fr with
  | none=>simp only[a3w,hw]at h;cases h
  | some b =>
   cases b with
   | false =>
    simp only[a3w,hw,Option.some.injEq,Prod.mk.injEq]at h;obtain⟨rfl,rfl⟩:=h;exact⟨by simp only[a3w,hw],hk⟩
   | true =>
    have hp:=p2 hw;simp only[opV,hw]at p1;cases hs:U0 env orc fr H x with
    | none=>rw[hs]at p1;cases p1
    | some r =>
     rw[hs]at p1;cases r with
     | pan _ _=>cases p1
     | val v' K =>
      simp only[Option.some.injEq,Prod.mk.injEq]at p1;obtain⟨rfl,rfl⟩:=p1;obtain⟨q1,q2,q3⟩:=c5q (x:=z) hcx hp hs hk (b3g hn);exact⟨by simp only[a3w,hw,q1,q2];rfl,q3⟩
 rcases a95 hax h with⟨_,rfl,g4⟩ |⟨u,k1,k2,rfl,k3⟩
 ·exact⟨g4 _,hk⟩
 have hne:newName y≠newName x:=by intro he;rw[he]at hn;simp at hn
 rw[F4,if_neg hne]at hk;refine⟨?_,hk⟩;rw[b1f hne];exact k3 _ (by rw[F4,if_neg (Ne.symm hne)];exact k2) (b4l k1)
theorem framePan (hc:a8H env ops sl x y=true)(hy:a6d y=true)(h:b4j env orc L sl ops x fr H v H')(hk:hget (newName y) H'=none) :
  b4j env orc L sl ops x fr (hset (newName y) z H) v (hset (newName y) z H')/\hget (newName y) H=none/\(L.all fun r=>isSome (hget r H))=true:=by
 have hm:=c1S h;have hyp:=(b2O hy).2.2;have hyc:a92 env y.op=false:=by obtain⟨t,ho⟩:=b4k hy;rw[ho];rfl
 simp only[b4P,Bool.and_eq_true,Bool.not_eq_true']at hm;simp only[a8H,Bool.and_eq_true]at hc;have hc:=hc.2;simp only[Bool.or_eq_true,Bool.and_eq_true,hyp,hm.1.1,hm.2,hyc,Bool.not_eq_true']at hc;have hcx:b0M x=true:=by
  rcases hc with((hc|hc) |⟨_,hc⟩) |(⟨hc,_⟩ |⟨hc,hn⟩)
  ·grind
  ·grind
  ·grind
  ·have:=hm.1.2;simp at this;have:=this.1.1;unfold c0m at hc;unfold isLd at this;grind
  grind
 have hn:Nat.beq (newName x) (newName y)=false:=by
  rcases hc with((hc|hc) |⟨_,hc⟩) |(⟨hc,_⟩ |⟨hc,hn⟩)
  ·grind
  ·grind
  ·grind
  ·have:=hm.1.2;simp at this;have:=this.1.1;unfold c0m at hc;unfold isLd at this;grind
  grind
 obtain⟨h1,h2,h3⟩:=h;obtain⟨q1,q2,q3⟩:=c5q  hcx h2 h3 hk (b3g hn);refine⟨⟨h1,q1,q2⟩,q3,?_⟩;rw[b3s hcx,List.all_eq_true]at h2;grind
theorem c8S (hc:a8H env ops sl x y=true)(hy:a6d y=true)(h:a3w env orc L sl ops x fr H=some (v,H'))(hs:(L.all fun r=>isSome (hget r H'))=true):(L.all fun r=>isSome (hget r H))=true:=by
 have hyp:=(b2O hy).2.2;have hyc:a92 env y.op=false:=by obtain⟨t,ho⟩:=b4k hy;rw[ho];rfl
 simp only[a8H,Bool.and_eq_true]at hc;have hc:=hc.2;simp only[Bool.or_eq_true,Bool.and_eq_true,hyp,hyc,Bool.not_eq_true']at hc;rcases hc with((hc|hc) |⟨_,hc⟩) |(⟨hc,_⟩ |⟨hc,hn⟩)
 ·rw[<-(b1n hc h).1];grind
 ·grind
 ·grind
 ·rw[<-(b1j hc h (fun _ _=>rfl)).1];grind
 rcases hc with⟨hcx,_⟩ |⟨hax,_⟩
 ·obtain⟨p1,p2⟩:=a7b.1 h;cases hw:G6 ops x fr with
  | none=>simp only[a3w,hw]at h;cases h
  | some b =>
   cases b with
   | false =>
    simp only[a3w,hw,Option.some.injEq,Prod.mk.injEq]at h;grind
   | true =>
    have hp:=p2 hw;rw[b3s hcx,List.all_eq_true]at hp;grind
 rcases a95 hax h with⟨_,rfl,g4⟩ |⟨u,k1,k2,rfl,k3⟩
 ·omega
 grind
theorem b90 {y:Oper}(hy:a6d y=true){v:V}{z:Obj}{u:V}:∀{A:List Oper} {fr f1:Fr} {H H1:Hp},(∀x∈A,a8H env ops sl x y=true)->M9 env orc L sl ops A fr H=some (.panic v,f1,H1)->hget (newName y) H1=none ->
  hget (newName y) H=none/\(L.all fun r=>isSome (hget r H))=true /\ ∃f2,M9 env orc L sl ops A (Y5 y.dst u fr) (hset (newName y) z H)=some (.panic v,f2,hset (newName y) z H1)
 | [],fr,f1,H,H1,_,h,_=>by cases h
 | x::A,fr,f1,H,H1,hc,h,hk=>by
  have hx:=hc x zGr;have ha:=b2V hx;obtain⟨a1,a2,a3⟩:=Oper.apart_spec ha;rcases a0B.1 h with⟨vx,Hx,h3,h4⟩ |⟨v',K,h3,h4⟩
  ·obtain⟨g1,g2,f2,g3⟩:=b90 hy zGr h4 hk;obtain⟨k1,k2⟩:=frameN  hx hy h3 g1;have k1':a3w env orc L sl ops x (Y5 y.dst u fr) (hset (newName y) z H)=some (vx,hset (newName y) z Hx):=by
    rw[<-k1];exact b1V fun t ht=>by rw[a5R,if_neg];grind
   obtain⟨f3,k3,_⟩:=b0r (c4r ha vx u fr) g3;exact⟨k2,c8S hx hy h3 g2,f3,a0B.2 (.inl ⟨_,_,k1',k3⟩)⟩
  obtain⟨rfl,rfl,rfl⟩:=h4;obtain⟨k1,k2,k3⟩:=framePan  hx hy h3 hk;refine⟨k2,k3,_,a0B.2 (.inr ⟨v,_,b2N (fun t ht=>?_) k1,rfl⟩)⟩;rw[a5R,if_neg];grind
end
section
variable {env:Env} {orc:Orc} {ops:Array Oper} {L sl:List Nat} {fr fr':Fr} {H H':Hp}
def bitB (m i:Nat):Bool:=Nat.beq (Nat.land (Nat.shiftRight m i) 1) 1
def ancB (M:List Nat)(j i:Nat):Bool:=bitB (M.getD j 0) i
def b7H (ops:Array Oper)(M:List Nat):Bool:=(List.range ops.size).all fun j=>match ops[j]? with
 | none=>true
 | some o=>(List.range ops.size).all fun i=>!ancB M j i||o.after.toList.any fun e=>Region.binds .any e&&Nat.blt e.on j&&(Nat.beq e.on i||ancB M e.on i)
def pairB (env:Env)(ops:Array Oper)(sl M:List Nat)(i j:Nat):Bool:=match ops[i]?,ops[j]? with
 | some x,some y=>ancB M j i ||(a8H env ops sl x y&&(!b4P x||a6d y))
 | _,_=>true
def b7U (ops:Array Oper)(i j:Nat):Bool:=match ops[i]?,ops[j]? with
 | some x,some y=>!(a6d x&&a6d y) || !Nat.beq (newName x) (newName y)
 | _,_=>true
def c1R (env:Env)(ops:Array Oper)(sl M:List Nat):List Nat->Bool | []=>true|i::r=>(r.all fun j=>pairB env ops sl M i j&&b7U ops i j && !Nat.beq i j)&&c1R env ops sl M r
def alB (env:Env)(o:Oper):Bool:=match o.op with
 | .alloc t=>(match o.guard with|none=>isSome (O7 t env.T)|some _=>false)
 | _=>true
def sepB (env:Env)(ops:Array Oper)(S sl M:List Nat):Bool :=b6h ops&&b7H ops M&&c1R env ops sl M S&&((List.range ops.size).all fun i=>has i S)&&(S.all fun i=>Nat.blt i ops.size)&&ops.toList.all (alB env)
def a8A (S:List Nat)(listed:Array Bool):List Nat:=S.filter fun i=>!listed.getD i true
def b7s (ops:Array Oper)(listed:Array Bool):Prop:=∀(i:Nat) (o:Oper) (e:Edge),listed.getD i true=true->ops[i]? = some o->e∈o.after.toList->Region.binds .any e=true->listed.getD e.on false=true
theorem c0k {listed:Array Bool}{i:Nat}(h:listed.getD i false=true):listed.getD i true=true:=by
 grind
theorem b7W {M:List Nat}(hM:b7H ops M=true){listed:Array Bool}(hc:b7s ops listed):∀(n j i:Nat),j<n->j<ops.size->i<ops.size->ancB M j i=true ->
  (∀(o:Oper) (e:Edge),ops[j]? = some o->e∈o.after.toList->Region.binds .any e=true->listed.getD e.on false=true)->listed.getD i false=true
 | 0,j,i,h,_,_,_,_=>zOm
 | n+1,j,i,hn,hj,hi,ha,he=>by
  have h:=hM;simp only[b7H,List.all_eq_true,List.mem_range]at h;have h:=h j hj;have ho:ops[j]? = some ops[j]:=zGr;rw[ho]at h;simp only[List.all_eq_true,List.mem_range]at h;have h:=h i hi;rw[ha]at h;simp only[Bool.not_true,Bool.false_or,List.any_eq_true,Bool.and_eq_true,Bool.or_eq_true]at h;obtain⟨e,h1,⟨h2,h3⟩,h4⟩:=h;have hl:=he _ e ho h1 h2;have hlt :=by simpa [Nat.blt_eq]using h3
  rcases h4 with h4|h4
  ·rw[Nat.eq_of_beq_eq_true h4]at hl;grind
  exact b7W hM hc n e.on i zOm zOm hi h4 (fun o' e' ho' he' hb'=>hc e.on o' e' (c0k hl) ho' he' hb')
theorem b0z {M:List Nat}:∀{S:List Nat},c1R env ops sl M S=true->S.Pairwise (fun i j=>pairB env ops sl M i j=true/\b7U ops i j=true/\i≠j)
 | [],_=>.nil
 | i::r,h=>by
  simp only[c1R,Bool.and_eq_true,List.all_eq_true,Bool.not_eq_true']at h;refine .cons (fun j hj=>?_) (b0z h.2);have:=h.1 j hj;refine⟨this.1.1,this.1.2,?_⟩;rintro rfl;simp_all
theorem least:∀(l:List Nat),l ≠ [] -> ∃i∈l,∀j∈l,i<=j
 | [],h=>absurd rfl h
 | [a],_=>⟨a,List.mem_singleton.2 rfl,fun j hj=>zGr⟩
 | a::b::r,_=>by
  obtain⟨i,hi,h⟩:=least (b::r) zSi;grind
theorem c7H {v:V}:∀{A:List Oper} {fr f1:Fr} {H H1:Hp},M9 env orc L sl ops A fr H=some (.panic v,f1,H1) -> ∃x∈A,b4P x=true
 | [],_,_,_,_,h=>by cases h
 | x::A,_,_,_,_,h=>by
  rcases a0B.1 h with⟨_,_,_,h4⟩ |⟨_,_,h3,_⟩
  ·obtain⟨z,hz,hm⟩:=c7H h4;grind
  exact⟨x,List.mem_cons_self ..,c1S h3⟩
theorem opVP_al {o:Oper}(ha:a6d o=true)(hb:alB env o=true)(hk:hget (newName o) H=none)(hL:(L.all fun r=>isSome (hget r H))=true) :
  ∃u z,a3w env orc L sl ops o fr H=some (u,hset (newName o) z H):=by
 obtain⟨t,ho⟩:=b4k ha;unfold alB at hb;rw[ho]at hb;cases hg:o.guard with
 | some x=>grind
 | none =>
  rw[hg]at hb;simp at hb;cases hT:O7 t env.T with
  | none=>rw[hT]at hb;cases hb
  | some y =>
   refine⟨.ptr (newName o) 0,.row y.zero,?_⟩;have hp:=(b2O ha).2.2;have he:X6 env orc fr H o=some (.val (.ptr (newName o) 0) (hset (newName o) (.row y.zero) H)):=by
    unfold X6;grind
   simp only[a3w,G6,hg,b9c ha,hL,U0,hp,he]
theorem b7F {S M:List Nat}(hE:b6h ops=true)(hM:b7H ops M=true)(hall:∀j,j<ops.size->j∈S)(hlt:∀j,j∈S->j<ops.size)(hP:S.Pairwise (fun i j=>pairB env ops sl M i j=true/\b7U ops i j=true/\i≠j))(hal:∀o∈ops.toList,alB env o=true) :
  ∀(fuel t:Nat) (listed:Array Bool) (fr:Fr) (H:Hp) (ex:Ex) (f1:Fr) (H1:Hp),listed.size=ops.size->b7s ops listed ->(a8A S listed).length<=fuel ->
  M9 env orc L sl ops ((a8A S listed).filterMap (ops[·]?)) fr H=some (ex,f1,H1) ->
  (∀v,ex=.panic v -> ∀i∈a8A S listed,∀o,ops[i]? = some o->a6d o=true->hget (newName o) H1=none) ->
  ∃f2 H2,M9 env orc L sl ops ((Region.linearise.go .any ops fuel t listed []).filterMap (ops[·]?)) fr H=some (ex,f2,H2)/\(ex=.normal->H2=H1/\b0H f1 f2)/\Sub H1 H2
 | 0,t,listed,fr,H,ex,f1,H1,hsz,hc,hl,h,hab=>by
  have :=by simpa using hl
  rw[this]at h;exact⟨f1,H1,h,fun _=>⟨rfl,.refl _⟩,.refl _⟩
 | fuel+1,t,listed,fr,H,ex,f1,H1,hsz,hc,hl,h,hab=>by
  have hpw:(a8A S listed).Pairwise _:=List.Pairwise.sublist List.filter_sublist hP;have hnd:(a8A S listed).Nodup:=hpw.imp fun h=>h.2.2;have hmem:∀j,j∈a8A S listed↔j<ops.size/\listed.getD j true=false:=fun j=>by
   simp only[a8A,List.mem_filter,Bool.not_eq_true'];grind
  have hready:∀j,j∈Region.ready .any ops listed↔j∈a8A S listed /\ ∀o,ops[j]? = some o -> ∀e∈o.after.toList,Region.binds .any e=true->listed.getD e.on false=true:=by
   intro j;rw[hmem];simp only[Region.ready,List.mem_filter,List.mem_range,Bool.and_eq_true,Bool.not_eq_true',and_assoc];refine and_congr_right fun hj=>and_congr_right fun _=>?_;have ho:ops[j]? = some ops[j]:=zGr;rw[ho];simp only[Option.map_some,Option.getD_some,Array.all_eq_true_iff_forall_mem,Bool.or_eq_true,Bool.not_eq_true',Option.some.injEq];grind
  change ∃f2 H2,M9 env orc L sl ops ((match (Region.ready .any ops listed)[t%(Region.ready .any ops listed).length]? with
   | some i=>Region.linearise.go .any ops fuel (t/(Region.ready .any ops listed).length) (listed.setIfInBounds i true) [i]
   | none=>[].reverse).filterMap (ops[·]?)) fr H=some (ex,f2,H2)/\_/\Sub H1 H2
  cases hi:(Region.ready .any ops listed)[t%(Region.ready .any ops listed).length]? with
  | none =>
   have hnil:Region.ready .any ops listed=[]:=by
    cases hr:Region.ready .any ops listed with
    | nil=>rfl
    | cons x xs =>
     rw[hr]at hi;have hlt:t%(x::xs).length<(x::xs).length:=Nat.mod_lt _ zSi;grind
   have hr0:a8A S listed=[]:=by
    by_cases hr:a8A S listed=[]
    ·grind
    obtain⟨i0,hin,hmin⟩:=least _ hr;have hrd :=by
     refine(hready i0).2 ⟨hin,fun o ho e he hb=>?_⟩;have hi0:=((hmem i0).1 hin).1;have hlt:e.on<i0:=by
      simp only[b6h,List.all_eq_true,List.mem_range]at hE;have:=hE i0 hi0;rw[ho]at this;simp only[List.all_eq_true,Bool.or_eq_true,Bool.not_eq_true']at this;rcases this e he with h2|h2
      ·grind
      simp_all
     grind
    grind
   rw[hr0]at h;exact⟨f1,H1,h,fun _=>⟨rfl,.refl _⟩,.refl _⟩
  | some i =>
   have hir:=(hready i).1 zGr;obtain⟨hin,hed⟩:=hir;obtain⟨hisz,hil⟩:=(hmem i).1 hin;obtain⟨A,B,hAB⟩:=List.append_of_mem hin;have ho:ops[i]? = some ops[i]:=by simp[hisz]
   simp only[];rw[linearise_go_acc,List.reverse_singleton,List.singleton_append,List.filterMap_cons,ho];simp only;rw[hAB,List.filterMap_append,List.filterMap_cons,ho]at h;simp only at h;have hpairs:∀j∈A,∀x,ops[j]? = some x->a8H env ops sl x ops[i]=true/\(b4P x=true->a6d ops[i]=true):=by
    intro j hj x hjx;rw[hAB,List.pairwise_append]at hpw;have hp:=(hpw.2.2 j hj i (List.mem_cons_self ..)).1;have hjr:j∈a8A S listed:=by rw[hAB];exact List.mem_append_left _ hj
    obtain⟨hjs,hjl⟩:=(hmem j).1 hjr;unfold pairB at hp;rw[hjx,ho]at hp;simp only[Bool.or_eq_true,Bool.and_eq_true,Bool.not_eq_true']at hp;rcases hp with h2 |⟨h2,h3⟩
    ·exfalso;have h3:=b7W hM hc (i+1) i j (Nat.lt_succ_self i) hisz hjs h2 (fun o e h4 h5 h6=>hed o h4 e h5 h6);rw[c0k h3]at hjl;cases hjl
    refine⟨h2,fun hm=>?_⟩;rcases h3 with h3|h3
    ·rw[hm]at h3;cases h3
    exact h3
   have hcomm:∀x∈A.filterMap (ops[·]?),a8H env ops sl x ops[i]=true:=by
    intro x hx;rw[List.mem_filterMap]at hx;obtain⟨j,hj,hjx⟩:=hx;exact(hpairs j hj x hjx).1
   have hrest':a8A S (listed.setIfInBounds i true)=A++B:=by
    have hne:(A++i::B).filter (fun k=>k != i)=A++B:=by
     rw[hAB,List.nodup_append]at hnd;obtain⟨h1,h2,h3⟩:=hnd;rw[List.nodup_cons]at h2;rw[List.filter_append,List.filter_cons];simp only[bne_self_eq_false,Bool.false_eq_true,if_false];rw[List.filter_eq_self.2 fun x hx=>by simp;exact fun e=>h3 x hx i (List.mem_cons_self ..) e,List.filter_eq_self.2 fun x hx=>by simp;rintro rfl;exact h2.1 hx]
    rw[<-hne,<-hAB];simp only[a8A,List.filter_filter];refine List.filter_congr fun k hk=>?_;have hk:=hlt k hk;simp only[Array.getD_eq_getD_getElem?];by_cases hki:k=i
    ·subst hki;rw[Array.getElem?_setIfInBounds_self_of_lt zOm];simp
    rw[Array.getElem?_setIfInBounds_ne (fun e=>hki e.symm)];simp[hki]
   have hc':b7s ops (listed.setIfInBounds i true):=by
    intro k o e hk ho' he hb;have hmono:listed.getD e.on false=true ->(listed.setIfInBounds i true).getD e.on false=true:=by
     intro h9;simp only[Array.getD_eq_getD_getElem?]at h9 ⊢;by_cases hki:i=e.on
     ·subst hki;rw[Array.getElem?_setIfInBounds_self_of_lt zOm];rfl
     rw[Array.getElem?_setIfInBounds_ne hki];exact h9
    refine hmono ?_;by_cases hki:i=k
    ·subst hki;exact hed o ho' e he hb
    refine hc k o e ?_ ho' he hb;simp only[Array.getD_eq_getD_getElem?]at hk ⊢;rw[Array.getElem?_setIfInBounds_ne hki]at hk;exact hk
   have hlen:(a8A S (listed.setIfInBounds i true)).length<=fuel:=by
    rw[hrest'];rw[hAB]at hl;simp only[List.length_append,List.length_cons]at hl ⊢;omega
   have hsub:∀j∈A++B,j∈a8A S listed:=fun j hj=>by
    rw[hAB];rcases List.mem_append.1 hj with hj|hj
    ·exact List.mem_append_left _ hj
    exact List.mem_append_right _ (List.mem_cons_of_mem _ hj)
   rcases a7h.1 h with⟨fA,HA,k1,k2⟩ |⟨v,f,K,k1,k2⟩
   ·rcases a0B.1 k2 with⟨vy,Hy,k3,k4⟩ |⟨v,K,k3,k4⟩
    ·obtain⟨K,f',g1,g2,g3⟩:=c60 hcomm k1 k3;obtain⟨f2,g4,g5⟩:=b0r g3 k4;have g6:M9 env orc L sl ops ((a8A S (listed.setIfInBounds i true)).filterMap (ops[·]?)) (Y5 ops[i].dst vy fr) K=some (ex,f2,H1):=by
      rw[hrest',List.filterMap_append];exact a7h.2 (.inl ⟨_,_,g2,g4⟩)
     obtain⟨f3,H3,q1,q2,q3⟩:=b7F hE hM hall hlt hP hal fuel (t/(Region.ready .any ops listed).length) _ _ _ _ _ _ (by simp[hsz]) hc' hlen g6 (fun v hv j hj o hjo hja=>by
      rw[hrest']at hj;exact hab v hv j (hsub j hj) o hjo hja)
     exact⟨f3,H3,a0B.2 (.inl ⟨_,_,g1,q1⟩),fun he=>⟨(q2 he).1,g5.trans (q2 he).2⟩,q3⟩
    simp only[Prod.mk.injEq]at k4;obtain⟨rfl,rfl,rfl⟩:=k4;have hm:=c1S k3;simp only[b4P,Bool.and_eq_true,Bool.not_eq_true']at hm;have g1:=c66 hm.1.1 hm.2 hcomm k1 k3;exact⟨fr,H1,a0B.2 (.inr ⟨v,H1,g1,rfl⟩),(fun he=>by cases he),.refl _⟩
   simp only[Prod.mk.injEq]at k2;obtain⟨rfl,rfl,rfl⟩:=k2;obtain⟨x,hx,hxm⟩:=c7H k1;rw[List.mem_filterMap]at hx;obtain⟨j,hj,hjx⟩:=hx;have hay:=(hpairs j hj x hjx).2 hxm;have hk1:=hab v rfl i hin _ ho hay;have key:=fun(z:Obj) (u:V)=>b90 (z:=z) (u:=u) hay hcomm k1 hk1;obtain⟨q1,q2,_⟩:=key .gone .undef;obtain⟨u,z,g1⟩:=opVP_al (orc:=orc) (L:=L) (sl:=sl) (ops:=ops) (fr:=fr) hay (hal _ zSi) q1 q2;obtain⟨_,_,f2,g2⟩:=key z u;have g6:M9 env orc L sl ops ((a8A S (listed.setIfInBounds i true)).filterMap (ops[·]?)) (Y5 ops[i].dst u fr) (hset (newName ops[i]) z H)=some (.panic v,f2,hset (newName ops[i]) z H1):=by
    rw[hrest',List.filterMap_append];exact a7h.2 (.inr ⟨_,_,_,g2,rfl⟩)
   obtain⟨f3,H3,p1,p2,p3⟩:=b7F hE hM hall hlt hP hal fuel (t/(Region.ready .any ops listed).length) _ _ _ _ _ _ (by simp[hsz]) hc' hlen g6 (fun v' hv j hj o hjo hja=>by
    rw[hrest']at hj;rw[F4,if_neg]
    ·exact hab v' hv j (hsub j hj) o hjo hja
    rw[hAB,List.pairwise_append,List.pairwise_cons]at hpw;rcases List.mem_append.1 hj with hj|hj
    ·have:=(hpw.2.2 j hj i (List.mem_cons_self ..)).2.1;unfold b7U at this;rw[hjo,ho]at this;simp only[hja,hay,Bool.and_self,Bool.not_true,Bool.false_or,Bool.not_eq_true']at this;intro he;rw[he]at this;simp at this
    have:=(hpw.2.1.1 j hj).2.1;unfold b7U at this;rw[hjo,ho]at this;simp only[hja,hay,Bool.and_self,Bool.not_true,Bool.false_or,Bool.not_eq_true']at this;intro he;rw[he]at this;simp at this)
   exact⟨f3,H3,a0B.2 (.inl ⟨_,_,g1,p1⟩),(fun he=>by cases he),(b51 hk1).trans p3⟩
theorem c0z:∀(n:Nat) (S:List Nat),S.Nodup ->(∀j∈S,j<n)->S.length<=n
 | 0,[],_,_=>Nat.le_refl _
 | 0,a::_,_,h=>by have:=h a zGr;omega
 | n+1,S,hn,h=>by
  have h1:=c0z n (S.erase n) (hn.erase n) zGr;grind
theorem b36:∀(S:List Nat),b03 ops S=S.filterMap (ops[·]?)
 | []=>rfl
 | i::r=>by
  simp only[b03,List.filterMap_cons];cases ops[i]? with
  | none=>exact b36 r
  | some o=>simp only[b36 r]
theorem a9W:∀{l:List Oper} {o:Oper},o∈l->a6d o=true->newName o∈a7H l
 | [],o,h,_=>by cases h
 | a::r,o,h,ha=>by
  simp only[a7H];rcases List.mem_cons.1 h with rfl|h
  ·grind
  cases a6d a with
  | true=>exact List.mem_cons_of_mem _ (a9W h ha)
  | false=>exact a9W h ha
theorem c1z {nr:Nat}{S:List Nat}{r:Res}(h:a7D env orc nr ops S sl fr H=some r):∃L,(∃f2 H2,M9 env orc L sl ops (b03 ops S) fr H=some (.normal,f2,H2)/\r =(.normal,f2,H2)) ∨
  ∃v f2 H2 v' H',M9 env orc L sl ops (b03 ops S) fr H=some (.panic v,f2,H2)/\c1b (a7H ops.toList) H2=true/\finish nr v H2=some (v',H')/\r =(.panic v',[],H'):=by
 unfold a7D at h;grind
end
variable {f nt:Nat}
section
variable {P:Program} {T:List (Nat×Ty)} {ρ ρ':Rho} {lab:Lab} {w:World} {H:Hp} {fr:Fr} {a:Act} {n nr:Nat} {env:Env} {orc:Orc} {ops:Array Oper}
def rest (ops:Array Oper)(listed:Array Bool):List Nat:=(List.range ops.size).filter fun i=>!listed.getD i true
def Closed (ops:Array Oper)(listed:Array Bool):Prop:=∀(i:Nat) (o:Oper) (e:Edge),listed.getD i true=true->ops[i]? = some o->e∈o.after.toList->Region.binds .any e=true->listed.getD e.on false=true
theorem b5K {listed:Array Bool}(hsz:listed.size=ops.size)(hc:Closed ops listed):∀(d i j:Nat),c2k ops d i j=true ->
  (∀(o:Oper) (e:Edge),ops[i]? = some o->e∈o.after.toList->Region.binds .any e=true->listed.getD e.on false=true)->listed.getD j false=true
 | 0,_,_,h,_=>by cases h
 | d+1,i,j,h,hi=>by
  simp only[c2k]at h;cases ho:ops[i]? with
  | none=>grind
  | some o =>
   rw[ho]at h;simp only[List.any_eq_true,Bool.and_eq_true,Bool.or_eq_true]at h;obtain⟨e,he,hb,h⟩:=h;have hl:=hi o e ho he hb;rcases h with h|h
   ·rw[Nat.eq_of_beq_eq_true h]at hl;omega
   refine b5K hsz hc d e.on j h (fun o' e' ho' he' hb'=>hc e.on o' e' ?_ ho' he' hb');grind
theorem c8m {A B:List Nat}{i:Nat}(hn:(A++i::B).Nodup):(A++i::B).filter (fun k=>k != i)=A++B:=by
 rw[List.nodup_append]at hn;obtain⟨h1,h2,h3⟩:=hn;rw[List.nodup_cons]at h2;rw[List.filter_append,List.filter_cons];simp;rw[List.filter_eq_self.2 fun x hx=>zGr,List.filter_eq_self.2 fun x hx=>zGr]
theorem lin_ok {b:Bool}(hE:b6h ops=true)(hP:c6g env ops b=true):∀(fuel t:Nat) (listed:Array Bool) (fr:Fr) (H:Hp) (f1:Fr) (H1:Hp),listed.size=ops.size->Closed ops listed ->(rest ops listed).length<=fuel ->
  (b=true->a7s f1 ((rest ops listed).filterMap (ops[·]?))) ->
  M7 env orc ops ((rest ops listed).filterMap (ops[·]?)) fr H=some (.normal,f1,H1) ->
  ∃f2,M7 env orc ops ((Region.linearise.go .any ops fuel t listed []).filterMap (ops[·]?)) fr H=some (.normal,f2,H1)/\b0H f1 f2
 | 0,t,listed,fr,H,f1,H1,hsz,hc,hl,hC,h=>by
  have :=by simpa using hl
  rw[this]at h;exact⟨f1,h,.refl _⟩
 | fuel+1,t,listed,fr,H,f1,H1,hsz,hc,hl,hC,h=>by
  have hnd:(rest ops listed).Nodup:=List.Nodup.sublist List.filter_sublist List.nodup_range;have hpw:(rest ops listed).Pairwise (· < ·):=List.Pairwise.sublist List.filter_sublist List.pairwise_lt_range;have hmem:∀j,j∈rest ops listed↔j<ops.size/\listed.getD j true=false:=fun j=>by
   simp only[rest,List.mem_filter,List.mem_range,Bool.not_eq_true']
  have hready:∀j,j∈Region.ready .any ops listed↔j∈rest ops listed /\ ∀o,ops[j]? = some o -> ∀e∈o.after.toList,Region.binds .any e=true->listed.getD e.on false=true:=by
   intro j;rw[hmem];simp only[Region.ready,List.mem_filter,List.mem_range,Bool.and_eq_true,Bool.not_eq_true',and_assoc];refine and_congr_right fun hj=>and_congr_right fun _=>?_;have ho:ops[j]? = some ops[j]:=zGr;rw[ho];simp only[Option.map_some,Option.getD_some,Array.all_eq_true_iff_forall_mem,Bool.or_eq_true,Bool.not_eq_true',Option.some.injEq];grind
  change ∃f2,M7 env orc ops ((match (Region.ready .any ops listed)[t%(Region.ready .any ops listed).length]? with
   | some i=>Region.linearise.go .any ops fuel (t/(Region.ready .any ops listed).length) (listed.setIfInBounds i true) [i]
   | none=>[].reverse).filterMap (ops[·]?)) fr H=some (.normal,f2,H1)/\b0H f1 f2
  cases hi:(Region.ready .any ops listed)[t%(Region.ready .any ops listed).length]? with
  | none =>
   have hnil:Region.ready .any ops listed=[]:=by
    cases hr:Region.ready .any ops listed with
    | nil=>rfl
    | cons x xs =>
     rw[hr]at hi;have hlt:t%(x::xs).length<(x::xs).length:=Nat.mod_lt _ zSi;grind
   have hr0:rest ops listed=[]:=by
    cases hr:rest ops listed with
    | nil=>rfl
    | cons i0 xs =>
     have hin:i0∈rest ops listed:=zGr;have hrd :=by
      refine(hready i0).2 ⟨hin,fun o ho e he hb=>?_⟩;have hi0:=((hmem i0).1 hin).1;have hlt:e.on<i0:=by
       simp only[b6h,List.all_eq_true,List.mem_range]at hE;have:=hE i0 hi0;rw[ho]at this;simp only[List.all_eq_true,Bool.or_eq_true,Bool.not_eq_true']at this;rcases this e he with h2|h2
       ·grind
       simp_all
      have hon:e.on<ops.size:=zOm;have hno:e.on ∉ rest ops listed:=by
       rw[hr]at hpw ⊢;rw[List.pairwise_cons]at hpw;grind
      grind
     grind
   rw[hr0]at h;exact⟨f1,h,.refl _⟩
  | some i =>
   have hir:=(hready i).1 zGr;obtain⟨hin,hed⟩:=hir;obtain⟨hisz,hil⟩:=(hmem i).1 hin;obtain⟨A,B,hAB⟩:=List.append_of_mem hin;have ho:ops[i]? = some ops[i]:=by simp[hisz]
   simp only[];rw[linearise_go_acc,List.reverse_singleton,List.singleton_append,List.filterMap_cons,ho];simp only;rw[hAB,List.filterMap_append,List.filterMap_cons,ho]at h hC;simp only at h hC;have hcomm:∀x∈A.filterMap (ops[·]?),b94 env ops b x ops[i]=true:=by
    intro x hx;rw[List.mem_filterMap]at hx;obtain⟨j,hj,hjx⟩:=hx;have hlt:j<i:=by
     rw[hAB,List.pairwise_append]at hpw;exact hpw.2.2 j hj i (List.mem_cons_self ..)
    have hjr:j∈rest ops listed:=by rw[hAB];exact List.mem_append_left _ hj
    have hjl:=((hmem j).1 hjr).2;simp only[c6g,List.all_eq_true,List.mem_range]at hP;have:=hP i hisz j hlt;rw[hjx,ho]at this;simp only[Bool.or_eq_true]at this;rcases this with h2|h2
    ·exact h2
    have h3:=b5K hsz hc 8 i j h2 (fun o e h4 h5 h6=>hed o h4 e h5 h6);simp only[Array.getD_eq_getD_getElem?]at h3 hjl;have hjs:j<listed.size:=zOm;rw[Array.getElem?_eq_getElem hjs]at h3 hjl;simp at h3 hjl;rw[h3]at hjl;cases hjl
   obtain⟨f2,h5,h6⟩:=b91 hcomm hC h;obtain⟨v,H',h7,h8⟩:=a1o.1 h5;have hrest':rest ops (listed.setIfInBounds i true)=A++B:=by
    rw[<-c8m (A:=A) (B:=B) (i:=i) (by rw[<-hAB];exact hnd),<-hAB];simp only[rest,List.filter_filter];refine List.filter_congr fun k hk=>?_;rw[List.mem_range]at hk;simp only[Array.getD_eq_getD_getElem?];by_cases hki:k=i
    ·subst hki;rw[Array.getElem?_setIfInBounds_self_of_lt zOm];simp
    rw[Array.getElem?_setIfInBounds_ne (fun e=>hki e.symm)];simp[hki]
   rw[<-List.filterMap_append,<-hrest']at h8;have hc':Closed ops (listed.setIfInBounds i true):=by
    intro k o e hk ho' he hb;have hmono:listed.getD e.on false=true ->(listed.setIfInBounds i true).getD e.on false=true:=by
     intro h9;simp only[Array.getD_eq_getD_getElem?]at h9 ⊢;by_cases hki:i=e.on
     ·subst hki;rw[Array.getElem?_setIfInBounds_self_of_lt zOm];rfl
     rw[Array.getElem?_setIfInBounds_ne hki];exact h9
    refine hmono ?_;by_cases hki:i=k
    ·subst hki;exact hed o ho' e he hb
    refine hc k o e ?_ ho' he hb;simp only[Array.getD_eq_getD_getElem?]at hk ⊢;rw[Array.getElem?_setIfInBounds_ne hki]at hk;exact hk
   have hlen:(rest ops (listed.setIfInBounds i true)).length<=fuel:=by
    rw[hrest'];rw[hAB]at hl;simp only[List.length_append,List.length_cons]at hl ⊢;omega
   obtain⟨f3,h9,h10⟩:=lin_ok hE hP fuel (t/(Region.ready .any ops listed).length) _ _ _ _ _ (by simp[hsz]) hc' hlen (fun hb=>by
    rw[hrest',List.filterMap_append];refine((hC hb).congr h6).sub ?_;exact List.Sublist.append_left (List.sublist_cons_self _ _) _) h8
   exact⟨f3,a1o.2 ⟨v,H',h7,h9⟩,h6.trans h10⟩
theorem b1b {α:Type}:∀(l:List α) (g:Nat->Option α) (k:Nat),(∀j,g (k+j)=l[j]?) ->(List.range' k l.length).filterMap g=l
 | [],g,k,_=>rfl
 | x::l,g,k,h=>by
  have h0 :=by simpa using h 0
  rw[List.length_cons,List.range'_succ,List.filterMap_cons,h0];rw[b1b l g (k+1) (fun j=>by have:=h (j+1);grind)]
theorem b0K (ops:Array Oper):(List.range ops.size).filterMap (ops[·]?)=ops.toList:=by
 rw[List.range_eq_range',<-Array.length_toList];exact b1b ops.toList _ 0 zGr
theorem b4L:∀{l:List Oper} {fr:Fr} {H:Hp} {r:Res},M7 env orc ops l fr H=some r->r.1=.normal ∨ ∃v,r.1=.panic v
 | [],fr,H,r,h=>by cases h;grind
 | o::l,fr,H,r,h=>by
  simp only[M7]at h;split at h
  ·cases h
  ·exact b4L h
  split at h
  ·cases h
  ·exact b4L h
  grind
theorem b9K {b:Bool}{r:Option Res}{x:Res}(h:a9g b ops r=some x):r=some x/\(b=true -> ∃fr H,x =(.normal,fr,H)/\((a6F ops.toList).all fun t=>b1R (look t fr))=true):=by
 cases b with
 | false=>exact⟨h,fun hb=>zGr⟩
 | true =>
  simp only[a9g]at h;split at h
  ·rename_i f1 H1;cases hc:(a6F ops.toList).all fun t=>b1R (look t f1)with
   | false=>rw[hc]at h;cases h
   | true=>rw[hc]at h;simp only[gd,Option.some.injEq]at h;grind
  grind
def a8G (env:Env)(f nt:Nat):Code->Bool
 | .region id ops d=>(ops.toList.all fun o=>match o.dst with|some d=>Nat.blt d nt|none=>true)&&(match b4C env f id d with
  | some (S,sl)=>sepB env ops S sl (env.mask f id)
  | none=>!d||drawB env ops (env.loose f))
 | .seq a b=>a8G env f nt a&&a8G env f nt b
 | .cond _ a b=>a8G env f nt a&&a8G env f nt b
 | .block _ a=>a8G env f nt a
 | .loop a=>a8G env f nt a
 | _=>true
def c09 (env:Env)(k:Nat)(orc:Orc):Prop:=∀f nr body fr H r,orc (.loop f nr body fr) H=some (.res r) -> ∀ρ lab w a n nt,a8G env f nt body=true->nt<=n->Sim ρ lab H w->FOk ρ lab w fr a n ->
 Code.rounds env.P body (Post nr n ρ lab w r) k a w
theorem Post.frEq {f1 f2:Fr}{ex:Ex}{e:Exit}{w':World}(h:b0H f1 f2)(hp:Post nr n ρ lab w (ex,f2,H) e a w'):Post nr n ρ lab w (ex,f1,H) e a w':=by
 obtain⟨ρ',lab',h1,h2,h3,h4,h5⟩:=hp;refine⟨ρ',lab',h1,h2,h3,h4,?_⟩;have key:FOk ρ' lab' w' f2 a n->FOk ρ' lab' w' f1 a n:=fun hf=>⟨fun t=>by rw[h t];exact hf.rel t,hf.size,hf.defers⟩
 grind
theorem c8M (hM:a9V env)(hT:TOk env.P env.T)(hm:env.P.follows .mixedOrders=true)(hO:b0G env.P orc){id:Nat}{d:Bool}{r:Res}(hB:a8G env f nt (.region id ops d)=true)(hn:nt<=n)
  (h:G8 env orc f nr (.region id ops d) fr H=some r) (hS:Sim ρ lab H w) (hF:FOk ρ lab w fr a n) {Q:Exit->Act->World->Prop} (hQ:∀e a' w',Post nr n ρ lab w r e a' w'->Q e a' w') :
  (Code.region id ops d).wp env.P Q a w:=by
 simp only[a8G,Bool.and_eq_true]at hB;obtain⟨hB1,hB2⟩:=hB;have hdst:∀(i:Nat) (o:Oper) (dd:Nat),ops[i]? = some o->o.dst=some dd->dd<n:=by
  intro i o dd ho hd;rw[List.all_eq_true]at hB1;have:=hB1 o zGr;rw[hd]at this;simp at this;omega
 simp only[G8]at h;cases hso:b4C env f id d with
 | some Ssl =>
  obtain⟨S,sl⟩:=Ssl;rw[hso]at h hB2;have hd:d=true:=by
   cases d with
   | true=>rfl
   | false=>cases hso
  subst hd;simp only[sepB,Bool.and_eq_true]at hB2;obtain⟨⟨⟨⟨⟨b1,b2⟩,b3⟩,b4⟩,b5⟩,b6⟩:=hB2;rw[List.all_eq_true]at b4 b5 b6;have hall :=fun j hj=>b0t.1 (b4 j (List.mem_range.2 hj));have hlt :=fun j hj=>by simpa [Nat.blt_eq]using b5 j hj
  refine wp_region_draw fun t=>?_;simp only[Region.schedule,hm,Bool.true_or,if_true];have hr:a8A S (Array.replicate ops.size false)=S:=by
   refine List.filter_eq_self.2 fun i hi=>?_;simp_all
  have hcl:b7s ops (Array.replicate ops.size false):=fun i o e hi ho=>by
   rcases Nat.lt_or_ge i ops.size with hlt|hge
   ·simp_all
   grind
  have hlen:(a8A S (Array.replicate ops.size false)).length<=ops.size:=by
   rw[hr];have hnd :=(b0z b3).imp fun h=>h.2.2;exact c0z _ _ hnd hlt
  have g:a15 w {w with drawn:=w.drawn+1}:=⟨Nat.le_refl _,rfl,rfl,rfl,fun _ _=>rfl⟩
  have E:=g.ext lab;obtain⟨L,⟨f1,H1,k1,rfl⟩ |⟨v,f1,H1,v',H',k1,k2,k3,rfl⟩⟩:=c1z h
  ·rw[b36,<-hr]at k1;obtain⟨f2,H2,k4,k5,_⟩:=b7F b1 b2 hall hlt (b0z b3) b6 ops.size t _ fr H _ _ _ zSi hcl hlen k1 zGr;obtain⟨rfl,k6⟩:=k5 rfl;exact a8P hM hT hO hdst _ ρ lab _ H fr a _ (a9e k4) (hS.grew g) (hF.ext E (.refl _)) (fun e a' w' hp=>hQ e a' w' ((hp.trans E (a4B.of_le (.refl _) _)).frEq k6))
  rw[b36,<-hr]at k1;obtain⟨f2,H2,k4,_,k6⟩:=b7F b1 b2 hall hlt (b0z b3) b6 ops.size t _ fr H _ _ _ zSi hcl hlen k1 (fun v' hv i hi o ho ha=>by
   have:=List.all_eq_true.1 k2 (newName o) (a9W (by rw[<-Array.getElem?_toList]at ho;exact List.mem_of_getElem? ho) ha);cases hq:hget (newName o) H1 with
   | none=>rfl
   | some z=>rw[hq]at this;cases this)
  have k7:=c5F k6 k3;refine a8P (nr:=nr) hM hT hO hdst _ ρ lab _ H fr a _ (a9e k4) (hS.grew g) (hF.ext E (.refl _)) (fun e a' w' hp=>hQ e a' w' ?_);have hp:=hp.trans E (a4B.of_le (.refl _) _);obtain⟨ρ1,a6j,q1,q2,q3,q4,q5⟩:=hp;cases e with
  | panic ch =>
   obtain⟨x,q6,q7⟩:=q5;obtain⟨ρ2,lab2,r1,r2,r3,r4,_⟩:=c0g q1 q7 k7;exact⟨ρ2,lab2,r1,q2.trans r2,q3.trans r3 (Nat.le_refl _),q4,x,q6,r4⟩
  | _=>exact q5.elim
 | none =>
 rw[hso]at h hB2;simp only at h hB2;cases d with
 | false =>
  refine wp_region ?_;have h':M7 env orc ops ops.toList fr H=some r:=by
   simp only[Bool.false_and,a9g]at h;split at h
   ·rename_i hq;rw[hq];exact h
   exact h
  rw[<-b0K ops]at h';exact a8P hM hT hO hdst _ ρ lab w H fr a r h' hS hF hQ
 | true =>
  simp only[Bool.not_true,Bool.false_or,drawB,Bool.and_eq_true]at hB2;simp only[Bool.true_and]at h;obtain⟨h,hchk⟩:=b9K h;refine wp_region_draw fun t=>?_;simp only[Region.schedule,hm,Bool.true_or,if_true];split at h
  ·cases h
  rename_i hno;obtain⟨ex,f1,H1⟩:=r;rcases b4L h with h1 |⟨v,h1⟩
  ·simp only at h1;subst h1;have hr:rest ops (Array.replicate ops.size false)=List.range ops.size:=by
    refine List.filter_eq_self.2 fun i hi=>?_;rw[List.mem_range]at hi;simp[hi]
   rw[<-b0K ops,<-hr]at h;obtain⟨f2,h2,h3⟩:=lin_ok hB2.1.1 hB2.1.2 ops.size t (Array.replicate ops.size false) fr H f1 H1 zSi (fun i o e hi ho=>by
    rcases Nat.lt_or_ge i ops.size with hlt|hge
    ·simp[hlt]at hi
    ·rw[Array.getElem?_eq_none hge]at ho;cases ho) (by rw[hr];simp) (fun hb=>by
    rw[hr,b0K];obtain⟨f',H',hx,hy⟩:=hchk hb;cases hx;have hs:=hB2.2;rw[hb]at hs;exact c7S (by simpa using hs) hy) h
   have g:a15 w {w with drawn:=w.drawn+1}:=⟨Nat.le_refl _,rfl,rfl,rfl,fun _ _=>rfl⟩
   have E:=g.ext lab;refine a8P hM hT hO hdst _ ρ lab _ H fr a _ h2 (hS.grew g) (hF.ext E (.refl _)) (fun e a' w' hp=>hQ e a' w' ((hp.trans E (a4B.of_le (.refl _) _)).frEq h3))
  simp only at h1;subst h1;exact absurd h (hno v f1 H1)
theorem b3v {c:Code}{Q Q':Exit->Act->World->Prop}(hq:∀e a w,Q e a w->Q' e a w):∀(k:Nat) (a:Act) (w:World),Code.rounds P c Q k a w->Code.rounds P c Q' k a w
 | 0,_,_,h=>h
 | k+1,a,w,h=>by
  refine wp_mono h fun e a' w' he=>?_;cases e<;>first|exact b3v hq k a' w' he|exact hq _ _ _ he
theorem c7a (hM:a9V env)(hT:TOk env.P env.T)(hm:env.P.follows .mixedOrders=true)(hO:b0G env.P orc){k:Nat}(hL:c09 env k orc):∀(c:Code) (ρ:Rho) (lab:Lab) (w:World) (H:Hp) (fr:Fr) (a:Act) (r:Res) (n:Nat),
  a8G env f nt c=true->nt<=n->G8 env orc f nr c fr H=some r->Sim ρ lab H w->FOk ρ lab w fr a n -> ∀Q:Exit->Act->World->Prop,(∀e a' w',Post nr n ρ lab w r e a' w'->Q e a' w')->c.wp env.P Q a w:=by
 intro c;induction c with
 | skip =>
  intro ρ lab w H fr a r n hB hn h hS hF Q hQ;cases h;exact wp_skip (hQ _ _ _ ⟨ρ,lab,hS,.refl _ _,a4B.of_le (.refl _) _,hF.defers,hF⟩)
 | label l =>
  intro ρ lab w H fr a r n hB hn h hS hF Q hQ;cases h;exact wp_label (hQ _ _ _ ⟨ρ,lab,hS,.refl _ _,a4B.of_le (.refl _) _,hF.defers,hF⟩)
 | exit i =>
  intro ρ lab w H fr a r n hB hn h hS hF Q hQ;cases h;exact wp_exit (hQ _ _ _ ⟨ρ,lab,hS,.refl _ _,a4B.of_le (.refl _) _,hF.defers,rfl,hF⟩)
 | ret =>
  intro ρ lab w H fr a r n hB hn h hS hF Q hQ;cases h;exact wp_ret (hQ _ _ _ ⟨ρ,lab,hS,.refl _ _,a4B.of_le (.refl _) _,hF.defers,hF⟩)
 | region id ops d =>
  intro ρ lab w H fr a r n hB hn h hS hF Q hQ;exact c8M hM hT hm hO hB hn h hS hF hQ
 | seq x y ihx ihy =>
  intro ρ lab w H fr a r n hB hn h hS hF Q hQ;simp only[a8G,Bool.and_eq_true]at hB;simp only[G8]at h;refine wp_seq ?_;cases hx:G8 env orc f nr x fr H with
  | none=>grind
  | some r1 =>
   rw[hx]at h;refine ihx ρ lab w H fr a r1 n hB.1 hn hx hS hF _ fun e a1 w1 hp=>?_;obtain⟨ex,fr1,H1⟩:=r1;obtain⟨ρ1,a6j,h1,h2,h3,h4,h5⟩:=hp;cases ex with
   | normal =>
    cases e with
    | normal =>
     unfold cutAt at h;cases hcu:env.cut f (a5C y)with
     | false =>
      rw[hcu]at h;exact ihy ρ1 a6j w1 H1 fr1 a1 r n hB.2 hn h h1 h5 Q fun e a' w' hp=>hQ e a' w' (hp.trans h2 h3)
     | true =>
      rw[hcu]at h;simp only at h;split at h
      ·rename_i fr2 H2 hnm;obtain⟨ρ2,lab2,k1,k2,k3,k4⟩:=b6w h1 h5.rel hnm;exact ihy ρ2 lab2 w1 H2 fr2 a1 r n hB.2 hn h k1 ⟨k4,h5.size,h5.defers⟩ Q fun e a' w' hp=>hQ e a' w' ((hp.trans k2 k3).trans h2 h3)
      grind
    | _=>grind
   | ret =>
    simp at h h5;subst h;cases e with
    | ret=>exact hQ _ _ _ ⟨ρ1,a6j,h1,h2,h3,h4,h5⟩
    | _=>grind
   | exit i =>
    simp at h h5;subst h;cases e with
    | exit j=>exact hQ _ _ _ ⟨ρ1,a6j,h1,h2,h3,h4,h5⟩
    | _=>exact h5.elim
   | panic v =>
    simp only[Option.some.injEq]at h h5;subst h;cases e with
    | panic ch=>exact hQ _ _ _ ⟨ρ1,a6j,h1,h2,h3,h4,h5⟩
    | _=>grind
 | cond c x y ihx ihy =>
  intro ρ lab w H fr a r n hB hn h hS hF Q hQ;simp only[a8G,Bool.and_eq_true]at hB;simp only[G8]at h;split at h
  ·rename_i t hc;have hb:=a0l hF.rel hc;generalize hcv:a.eval c=cv at hb;cases hb;split at h
   ·exact wp_cond_true hcv (ihx ρ lab w H fr a r n hB.1 hn h hS hF Q hQ)
   exact wp_cond_false hcv (ihy ρ lab w H fr a r n hB.2 hn h hS hF Q hQ)
  cases h
 | block id x ihx =>
  intro ρ lab w H fr a r n hB hn h hS hF Q hQ;simp only[a8G]at hB;simp only[G8]at h;refine wp_block ?_;cases hx:G8 env orc f nr x fr H with
  | none=>rw[hx]at h;cases h
  | some r1 =>
   rw[hx]at h;refine ihx ρ lab w H fr a r1 n hB hn hx hS hF _ fun e a1 w1 hp=>?_;obtain⟨ex,fr1,H1⟩:=r1;obtain⟨ρ1,a6j,h1,h2,h3,h4,h5⟩:=hp;cases ex with
   | normal =>
    simp only[Option.some.injEq]at h h5;subst h;cases e with
    | normal=>exact hQ _ _ _ ⟨ρ1,a6j,h1,h2,h3,h4,h5⟩
    | _=>exact h5.elim
   | ret =>
    simp only[Option.some.injEq]at h h5;subst h;cases e with
    | ret=>exact hQ _ _ _ ⟨ρ1,a6j,h1,h2,h3,h4,h5⟩
    | _=>exact h5.elim
   | exit i =>
    simp only at h h5;cases e with
    | exit j =>
     obtain⟨rfl,h5⟩:=h5;simp only[Exit.inBlock];cases hb:Nat.beq i id with
     | true =>
      rw[hb]at h;simp only[Option.some.injEq]at h;subst h;rw[if_pos (Nat.eq_of_beq_eq_true hb)];exact hQ _ _ _ ⟨ρ1,a6j,h1,h2,h3,h4,h5⟩
     | false =>
      rw[hb]at h;simp only[Option.some.injEq]at h;subst h;rw[if_neg (by rintro rfl;simp at hb)];exact hQ _ _ _ ⟨ρ1,a6j,h1,h2,h3,h4,rfl,h5⟩
    | _=>exact h5.elim
   | panic v =>
    simp only[Option.some.injEq]at h h5;subst h;cases e with
    | panic ch=>exact hQ _ _ _ ⟨ρ1,a6j,h1,h2,h3,h4,h5⟩
    | _=>exact h5.elim
 | loop x ihx =>
  intro ρ lab w H fr a r n hB hn h hS hF Q hQ;simp only[a8G]at hB;simp only[G8]at h;split at h
  ·rename_i fr1 H1 hnm;split at h
   ·rename_i r1 ho;cases h;obtain⟨ρ1,a6j,k1,k2,k3,k4⟩:=b6w hS hF.rel hnm;have:=hL f nr x fr1 H1 _ ho ρ1 a6j w a n nt hB hn k1 ⟨k4,hF.size,hF.defers⟩;exact wp_loop_rounds k (b3v (fun e a' w' hp=>hQ e a' w' (hp.trans k2 k3)) k a w this)
   cases h
  cases h
 | _ =>
  intro ρ lab w H fr a r n hB hn h hS hF Q hQ;simp only[G8]at h;cases h
end
variable {tmps:Array Value} {args:List V} {g k:Nat} {out:Out} {v:V}
section
variable {P:Program} {T:List (Nat×Ty)} {ρ ρ':Rho} {lab:Lab} {w:World} {H:Hp} {fr:Fr} {a:Act} {n nr:Nat} {env:Env} {orc:Orc}
def b9k (tmps:Array Value):ResultVar->Sem Value | .tmp t=>pure (tmps.getD t undef) | .cell a t=>do loadVar t (<-asAddr (tmps.getD a undef))
theorem resV_ok (hT:TOk P T)(hS:Sim ρ lab H w)(hF:a6o ρ lab w fr tmps){rv:ResultVar}(h:b9l T fr H rv=some v):∃z,(b9k tmps rv).run P w=.ok z w/\Rel ρ lab w v z:=by
 cases rv with
 | tmp t=>cases h;exact⟨_,rfl,hF t⟩
 | cell c t =>
  simp only[b9l]at h;have hx:=hF c;obtain⟨z,h1,h2⟩:=c3H hT hS hx h;refine⟨z,?_,h2⟩;simp only[b9k];generalize hcv:tmps.getD c undef=cv at hx h1;unfold a6s at h;split at h
  ·rename_i hl;rw[hl]at hx;cases hx;exact h1
  ·rename_i hl;rw[hl]at hx;cases hx;exact h1
  grind
theorem mapM_ok (hT:TOk P T)(hS:Sim ρ lab H w){tmps:Array Value}(hF:a6o ρ lab w fr tmps):∀{l:List ResultVar} {vs:List V},a2r (b9l T fr H) l=some vs -> ∃xs,(l.mapM (b9k tmps)).run P w=.ok xs w/\L6 ρ lab w vs xs
 | [],vs,h=>by cases h;exact⟨[],rfl,b9j⟩
 | r::l,vs,h=>by
  simp only[a2r]at h;split at h
  ·cases h
  rename_i v hv;split at h
  ·cases h
  rename_i u hu;cases h;obtain⟨z,h1,h2⟩:=resV_ok hT hS hF hv;obtain⟨xs,h3,h4⟩:=mapM_ok hT hS hF hu;exact⟨z::xs,by simp_all,F8.2 ⟨z,xs,rfl,h2,h4⟩⟩
theorem c6s (hT:TOk P T)(hS:Sim ρ lab H w)(hF:a6o ρ lab w fr tmps){fn:Func}(h:a88 T fr H fn.results.toList=some v):∃z,(results fn tmps).run P w=.ok z w/\Rel ρ lab w v z:=by
 have hr:(results fn tmps) =(do let vs <-fn.results.mapM (b9k tmps);pure (if h:vs.size=1 then vs[0]else .tuple vs)):=by
  congr 1
 rw[hr];unfold a88 at h;have key:∀vs,a2r (b9l T fr H) fn.results.toList=some vs -> ∃xs,(fn.results.mapM (b9k tmps)).run P w=.ok xs.toArray w/\L6 ρ lab w vs xs:=by
  intro vs hvs;obtain⟨xs,h1,h2⟩:=mapM_ok hT hS hF hvs;refine⟨xs,?_,h2⟩;rw[Array.mapM_eq_mapM_toList];simp_all
 split at h
 ·rename_i v' hvs;cases h;obtain⟨xs,h1,h2⟩:=key _ hvs;obtain⟨x,xr,rfl,h3,h4⟩:=F8.1 h2;have :=by have:=h4.1;simpa using this
  simp_all
 ·rename_i vs hno hvs;cases h;obtain⟨xs,h1,h2⟩:=key _ hvs;refine⟨.tuple xs.toArray,?_,.tuple vs xs h2.1 h2.2⟩;have hsz:¬xs.toArray.size=1:=by
   intro hsz;have hl:vs.length=1:=by rw[<-h2.1];omega
   match vs,hl with
   | [v],_=>grind
  simp_all
 grind
theorem c0t:∀(args:List V) (k t:Nat),look t (a6G k args)=if k<=t then(args[t-k]?).getD .undef else .undef
 | [],k,t=>by simp[a6G,look]
 | v::r,k,t=>by
  simp only[a6G];by_cases hk:k=t
  ·subst hk;rw[a6k];simp
  rw[a3H hk,c0t r (k+1) t];grind
structure a7G (P:Program)(g:Nat)(h:List V->Hp->Option Out):Prop where
 call:∀args H out,h args H=some out -> ∀ρ lab w xs,Canon 0 H->Sim ρ lab H w->L6 ρ lab w args xs->Calls P g xs.toArray w (a9T ρ lab H w out)
 known:∃fn c,P.funcs[g]? = some fn/\(fn.name == "runtime.NumGoroutine")=false/\fn.body=some c
structure ViaOk (P:Program)(g:Nat)(pre:List V->Hp->Option (Nat×List V×Hp))(post:List V->Hp->Out->Option Out):Prop where
 call:∀args H g' l H' o out,pre args H=some (g',l,H')->post args H o=some out -> ∀ρ lab w xs,Canon 0 H->Sim ρ lab H w->L6 ρ lab w args xs ->
  (∀ρ lab w ys,Canon 0 H'->Sim ρ lab H' w->L6 ρ lab w l ys->Calls P g' ys.toArray w (a9T ρ lab H' w o))->Calls P g xs.toArray w (a9T ρ lab H w out)
 known:∃fn c,P.funcs[g]? = some fn/\(fn.name == "runtime.NumGoroutine")=false/\fn.body=some c
structure a7M (env:Env):Prop where
 meth:a9V env
 T:TOk env.P env.T
 mixed:env.P.follows .mixedOrders=true
 code:∀g fn c,env.ok g=true->env.P.funcs[g]? = some fn->fn.body=some c->a8G env g fn.ntmps c=true/\(fn.name == "runtime.NumGoroutine")=false
 intr:∀g h,env.intr g=some (.plain h)->a7G env.P g h
 via:∀g pre post,env.intr g=some (.via pre post)->ViaOk env.P g pre post
theorem b9Q (hE:a7M env) (h:a7l env orc g args H=some out):∃fn c,env.P.funcs[g]? = some fn/\(fn.name == "runtime.NumGoroutine")=false/\fn.body=some c:=by
 unfold a7l at h;split at h
 ·rename_i fn hf hok;split at h
  ·cases h
  rename_i c hb;exact⟨fn,c,hf,(hE.code g fn c hok hf hb).2,hb⟩
 grind
theorem c6u (hE:a7M env) (hO:b0G env.P orc) (hL:c09 env k orc) {xs:List Value} (h:a7l env orc g args H = some out)
    (hc:Canon 0 H) (hS:Sim ρ lab H w) (hx:L6 ρ lab w args xs) :
    Calls env.P g xs.toArray w (a9T ρ lab H w out) /\ ∃fn c,env.P.funcs[g]? = some fn/\(fn.name == "runtime.NumGoroutine")=false/\fn.body=some c:=by
  unfold a7l at h;split at h
  · rename_i fn hf hok
    split at h
    · cases h
    rename_i c hb;obtain⟨hB,hN⟩:=hE.code g fn c hok hf hb;refine⟨calls_of_wp hf hb ?_,fn,c,hf,hN,hb⟩;have hF:FOk ρ lab w (a6G 0 args) {tmps:=xs.toArray++Array.replicate (fn.ntmps-xs.toArray.size) undef,defers:=[]} (xs.toArray++Array.replicate (fn.ntmps-xs.toArray.size) undef).size:=by
      refine⟨fun t=>?_,rfl,rfl⟩;rw[c0t,if_pos zOm,Nat.sub_zero];cases hv:args[t]? with
      | none=>exact .undef _
      | some v =>
        have hlt:t<xs.length:=by
          rw[hx.1];grind
        have h2:(xs.toArray++Array.replicate (fn.ntmps-xs.toArray.size) undef).getD t undef=xs[t]:=by
          rw[Array.getD_eq_getD_getElem?,Array.getElem?_append_left zOm];grind
        rw[h2];exact hx.2 t v xs[t] hv zGr
    have hn:fn.ntmps <=(xs.toArray++Array.replicate (fn.ntmps-xs.toArray.size) undef).size:=zGr;cases hev:G8 env orc g H.length c _ H with
    | none=>rw[hev]at h;cases h
    | some r =>
      rw[hev]at h;refine c7a hE.meth hE.T hE.mixed hO hL c ρ lab w H _ _ r _ hB hn hev hS hF _ fun e a' w' hp=>?_;obtain⟨ex,fr',H1⟩:=r;obtain⟨ρ1,a6j,h1,h2,h3,h4,h5⟩:=hp;have fin0:∀{a6j H1 v x v2 H2},Ext lab w a6j w'->Sim ρ1 a6j H1 w'->Rel ρ1 a6j w' v x->finish H.length v H1=some (v2,H2)->Done ρ lab H w (a6n (env.tags g) v2 H2).1 (a6n (env.tags g) v2 H2).2 x w':=by
        intro a6j H1 v x v2 H2 h2 h1 hv hfi;obtain⟨ρ2,lab2,k1,k2,k3,k4,k5,k6⟩:=c0g h1 hv hfi;obtain⟨ρ3,m1,m2,m3,m4,m5⟩:=c82  k5 k1 k4;exact⟨ρ3,lab2,m2,h2.trans k2,(h3.trans k3 zOm).trans (a4B.of_le m1 _) zOm,m3,m4,Nat.le_trans k6 m5⟩
      have fin:∀{v x v2 H2},Rel ρ1 a6j w' v x->finish H.length v H1=some (v2,H2)->Done ρ lab H w (a6n (env.tags g) v2 H2).1 (a6n (env.tags g) v2 H2).2 x w':=fun hv hfi=>fin0 h2 h1 hv hfi;have res:∀ {out':Out},FOk ρ1 a6j w' fr' a' (xs.toArray ++ Array.replicate (fn.ntmps - xs.toArray.size) undef).size ->
          (match a88 env.T fr' H1 fn.results.toList with
            | some v=>match finish H.length (match env.tags g with|true=>b8D (env.b4g g) (b27 (env.frz g) v H1).1|false=>b9r (b27 (env.frz g) v H1).1) (b27 (env.frz g) v H1).2 with
              | some (v,H2)=>some (Out.ret (a6n (env.tags g) v H2).1 (a6n (env.tags g) v H2).2)
              | none=>none
            | none=>none)=some out' -> ∃x,(results fn a'.tmps).run env.P w'=.ok x w'/\a9T ρ lab H w out' (.returned x) w':=by
        intro out' hf' h;split at h
        · rename_i v hv
          split at h
          · rename_i v2 H2 hfi
            cases h;obtain⟨x,g1,g2⟩:=c6s hE.T h1 hf'.rel hv;obtain⟨l3,q1,q2,q3⟩:=c7h (b:=env.frz g) h1 g2;refine⟨x,g1,fin0 (h2.trans q1) q2 ?_ hfi⟩;split
            · exact q3.b8D
            exact q3.b9r
          cases h
        cases h
      cases ex with
      | normal =>
        cases e with
        | normal=>exact⟨h4,res h5 h⟩
        | _=>exact h5.elim
      | ret =>
        cases e with
        | ret=>exact⟨h4,res h5 h⟩
        | _=>exact h5.elim
      | exit i=>cases h
      | panic v =>
        cases e with
        | panic ch =>
          obtain⟨x,rfl,hx'⟩:=h5;simp only at h;split at h
          · rename_i v2 H2 hfi
            cases h;exact⟨h4,x,rfl,fin hx' hfi⟩
          cases h
        | _=>exact h5.elim
  cases h
theorem c6v (hE:a7M env)(hO:b0G env.P orc)(hL:c09 env k orc){f nr nt:Nat}{body:Code}{r:Res}(h:a9a env orc f nr body fr H=some (.res r))(hB:a8G env f nt body=true)(hn:nt<=n)
  (hS:Sim ρ lab H w) (hF:FOk ρ lab w fr a n):Code.rounds env.P body (Post nr n ρ lab w r) (k+1) a w:=by
 unfold a9a at h;cases hev:G8 env orc f nr body fr H with
 | none=>grind
 | some r1 =>
  rw[hev]at h;refine c7a hE.meth hE.T hE.mixed hO hL body ρ lab w H fr a r1 n hB hn hev hS hF _ fun e a' w' hp=>?_;obtain⟨ex,fr',H1⟩:=r1;have hp':=hp;obtain⟨ρ1,a6j,h1,h2,h3,h4,h5⟩:=hp;cases ex with
  | normal =>
   simp only at h;cases e with
   | normal =>
    split at h
    ·rename_i fr2 H2 hnm;obtain⟨ρ2,lab2,k1,k2,k3,k4⟩:=b6w h1 h5.rel hnm;have h6:FOk ρ2 lab2 w' fr2 a' n:=⟨k4,h5.size,h4⟩
     exact b3v (fun e a w hp=>(hp.trans k2 k3).trans h2 h3) k a' w' (hL f nr body fr2 H2 r h ρ2 lab2 w' a' n nt hB hn k1 h6)
    grind
   | _=>grind
  | ret =>
   cases h;cases e with
   | ret=>exact hp'
   | _=>grind
  | exit i =>
   cases h;cases e with
   | exit j=>exact hp'
   | _=>grind
  | panic v =>
   cases h;cases e with
   | panic ch=>exact hp'
   | _=>grind
theorem b4V (hE:a7M env):∀k,b0G env.P (run env k)/\c09 env k (run env k)
 | 0=>⟨⟨fun g args H out h=>(by cases h),fun g args H out h=>(by cases h)⟩,fun f nr body fr H r h=>(by cases h)⟩
 | k+1=>by
  obtain⟨hO,hL⟩:=b4V hE k;refine⟨⟨fun g args H out h ρ lab w xs hc hS hx=>?_,fun g args H out h=>?_⟩,fun f nr body fr H r h ρ lab w a n nt hB hn hS hF=>c6v hE hO hL h hB hn hS hF⟩
  ·simp only[run,step]at h;split at h
   ·rename_i hh hi;exact(hE.intr g hh hi).call args H out h ρ lab w xs hc hS hx
   ·rename_i pre post hi;split at h
    ·rename_i g' l H' hp;split at h
     ·rename_i o ho;exact(hE.via g pre post hi).call args H g' l H' o out hp h ρ lab w xs hc hS hx (fun ρ lab w ys hc2 hS2 hy=>hO.call g' l H' o ho ρ lab w ys hc2 hS2 hy)
     grind
    grind
   exact(c6u hE hO hL h hc hS hx).1
  simp only[run,step]at h;split at h
  ·rename_i hh hi;exact(hE.intr g hh hi).known
  ·rename_i pre post hi;exact(hE.via g pre post hi).known
  exact b9Q hE h
end
variable {ops:Array Oper} {fr:Fr} {H:Hp} {S sl:List Nat} {args:List V} {xs:List Value} {f g k m nr:Nat} {r:OpR} {o:Oper} {t:Task} {w:World}
section
variable {env:Env} {orc orc':Orc}
def OLe (a b:Orc):Prop:=∀t H o,a t H=some o->b t H=some o
structure Chain (c:Nat->Orc)(e:Orc):Prop where
 le:∀k,OLe (c k) e
 up:∀k,OLe (c k) (c (k+1))
 at_:∀t H o,e t H=some o -> ∃k,c k t H=some o
theorem Chain.mono {c:Nat->Orc}{e:Orc}(h:Chain c e):∀{j k:Nat},j<=k->OLe (c j) (c k):=by
 intro j k hjk;induction hjk with
 | refl=>exact fun _ _ _ h=>h
 | step _ ih=>exact fun t H o ho=>h.up _ t H o (ih t H o ho)
theorem b4B (h:OLe orc orc')(hr:a3B orc g args H=some r):a3B orc' g args H=some r:=by
 unfold a3B at hr ⊢;split at hr
 ·grind
 split at hr
 ·rename_i ho;rw[h _ _ _ ho];omega
 grind
theorem b1L (h:OLe orc orc')(hr:a0e env orc k g args H=some r):a0e env orc' k g args H=some r:=by
 unfold a0e at hr ⊢;split at hr
 ·exact b4B h hr
 simp at hr ⊢;split at hr
 ·split at hr
  ·rename_i ho;rw[h _ _ _ ho];grind
  ·rename_i ho;rw[h _ _ _ ho];grind
  grind
 grind
theorem c5k (h:OLe orc orc')(hr:a4C env orc k g args H=some r):a4C env orc' k g args H=some r:=by
 unfold a4C at hr ⊢;split at hr
 ·exact b4B h hr
 split at hr
 ·exact b1L h hr
 split at hr
 ·rename_i ho;rw[b1L h ho];grind
 grind
theorem c6b (h:OLe orc orc')(hr:X6 env orc fr H o=some r):X6 env orc' fr H o=some r:=by
  unfold X6 at hr ⊢;split at hr<;>first
    | grind
    | (split at hr
       · first
         | exact c5k h hr
         | omega
         | (split at hr
            · exact b1L h hr
            grind)
       omega)
theorem b0x (h:OLe orc orc')(hr:U0 env orc fr H o=some r):U0 env orc' fr H o=some r:=by
 unfold U0 at hr ⊢;split at hr
 ·grind
 exact c6b h hr
theorem a7g (h:OLe orc orc'){ops:Array Oper}:∀{l:List Oper} {fr:Fr} {H:Hp} {r:Res},M7 env orc ops l fr H=some r->M7 env orc' ops l fr H=some r
 | [],fr,H,r,hr=>hr
 | o::l,fr,H,r,hr=>by
  simp only[M7]at hr ⊢;cases hw:G6 ops o fr with
  | none=>grind
  | some b =>
   rw[hw]at hr;cases b with
   | false=>exact a7g h hr
   | true =>
    cases ho:U0 env orc fr H o with
    | none=>grind
    | some x =>
     rw[ho]at hr;rw[b0x h ho];cases x with
     | val v H1=>exact a7g h hr
     | pan v H1=>omega
theorem a7x (h:OLe orc orc'){L sl:List Nat}{ops:Array Oper}:∀{l:List Oper} {fr:Fr} {H:Hp} {r:Res},M9 env orc L sl ops l fr H=some r->M9 env orc' L sl ops l fr H=some r
 | [],fr,H,r,hr=>hr
 | o::l,fr,H,r,hr=>by
  simp only[M9]at hr ⊢;cases hw:G6 ops o fr with
  | none=>grind
  | some b =>
   rw[hw]at hr;cases b with
   | false=>exact a7x h hr
   | true =>
    cases hp:a6m env L sl fr H o with
    | false=>grind
    | true =>
    rw[hp]at hr;cases ho:U0 env orc fr H o with
    | none=>grind
    | some x =>
     rw[ho]at hr;rw[b0x h ho];cases x with
     | val v H1=>exact a7x h hr
     | pan v H1=>omega
theorem c1y (h:OLe orc orc'){r:Res}(hr:a7D env orc nr ops S sl fr H=some r):a7D env orc' nr ops S sl fr H=some r:=by
 unfold a7D at hr ⊢;split at hr
 ·grind
 rename_i ho;rw[a7g h ho];simp only;split at hr
 ·grind
 cases hq:M9 env orc _ sl ops _ fr H with
 | none=>rw[hq]at hr;grind
 | some x=>rw[hq]at hr;rw[a7x h hq];grind
theorem a7w (h:OLe orc orc'):∀{c:Code} {fr:Fr} {H:Hp} {r:Res},G8 env orc f nr c fr H=some r->G8 env orc' f nr c fr H=some r:=by
 intro c;induction c with
 | region id ops d =>
  intro fr H r hr;simp only[G8]at hr ⊢;split at hr
  ·exact c1y h hr
  cases ho:M7 env orc ops ops.toList fr H with
  | none =>
   rw[ho]at hr;cases hd:(d&&env.loose f)<;>rw[hd]at hr<;>cases hr
  | some x=>rw[ho]at hr;rw[a7g h ho];omega
 | seq a b iha ihb =>
  intro fr H r hr;simp only[G8]at hr ⊢;grind
 | cond c a b iha ihb =>
  intro fr H r hr;simp only[G8]at hr ⊢;grind
 | block id a iha =>
  intro fr H r hr;simp only[G8]at hr ⊢;grind
 | loop a iha =>
  intro fr H r hr;simp only[G8]at hr ⊢;split at hr
  ·split at hr
   ·rename_i ho;rw[h _ _ _ ho];omega
   grind
  omega
 | _=>exact fun hr=>hr
theorem c8Y (h:OLe orc orc'):OLe (step env orc) (step env orc'):=by
 intro t H o hr;cases t with
 | call g args =>
  simp only[step]at hr ⊢;split at hr
  ·omega
  ·split at hr
   ·split at hr
    ·rename_i ho;rw[h _ _ _ ho];grind
    grind
   grind
  unfold a7l at hr ⊢;split at hr
  ·split at hr
   ·omega
   cases ho:G8 env orc g H.length _ _ H with
   | none=>rw[ho]at hr;grind
   | some x=>rw[ho]at hr;rw[a7w h ho];grind
  omega
 | loop f nr body fr =>
  simp only[step,a9a]at hr ⊢;cases ho:G8 env orc f nr body fr H with
  | none=>grind
  | some x =>
   rw[ho]at hr;rw[a7w h ho];obtain⟨e,fr1,H1⟩:=x;cases e with
   | normal =>
    simp at hr ⊢;split at hr
    ·exact h _ _ _ hr
    omega
   | _=>omega
theorem run_up (env:Env):∀k,OLe (run env k) (run env (k+1))
 | 0=>fun t H o h=>by cases h
 | k+1=>c8Y (run_up env k)
open Classical in
noncomputable def E (env:Env):Orc:=fun t H=>if h:∃k o,run env k t H=some o then some (Classical.choose (Classical.choose_spec h))else none
theorem a3O (env:Env):Chain (run env) (E env):=by
 have up:=run_up env;have mono:∀{j k:Nat},j<=k->OLe (run env j) (run env k):=by
  intro j k hjk;induction hjk with
  | refl=>exact fun _ _ _ h=>h
  | step _ ih=>exact fun t H o ho=>up _ t H o (ih t H o ho)
 have fn:∀{j k t H o o'},run env j t H=some o->run env k t H=some o'->o=o':=by
  intro j k t H o o' h1 h2;have h3:=mono (Nat.le_max_left j k) t H o h1;have h4:=mono (Nat.le_max_right j k) t H o' h2;grind
 refine⟨fun k t H o h=>?_,up,fun t H o h=>?_⟩
 ·have hex:∃k o,run env k t H=some o:=⟨k,o,h⟩
  unfold E;grind
 unfold E at h;split at h
 ·grind
 grind
section
variable {c:Nat->Orc} {e:Orc}
theorem b4A (h:Chain c e)(hr:a3B e g args H=some r):∃k,a3B (c k) g args H=some r:=by
 unfold a3B at hr ⊢;split at hr
 ·grind
 split at hr
 ·rename_i ho;obtain⟨k,hk⟩:=h.at_ _ _ _ ho;grind
 grind
theorem b1K (h:Chain c e)(hr:a0e env e m g args H=some r):∃k,a0e env (c k) m g args H=some r:=by
 unfold a0e at hr ⊢;split at hr
 ·exact b4A h hr
 rename_i hq;simp at hr ⊢;split at hr
 ·split at hr
  ·rename_i ho;obtain⟨k,hk⟩:=h.at_ _ _ _ ho;grind
  ·rename_i ho;obtain⟨k,hk⟩:=h.at_ _ _ _ ho;grind
  grind
 grind
theorem c5i (h:Chain c e)(hr:a4C env e m g args H=some r):∃k,a4C env (c k) m g args H=some r:=by
 cases hq:env.quiet g with
 | true =>
  simp only[a4C,hq]at hr ⊢;exact b4A h hr
 | false=>cases hl:env.look g with
  | false =>
   simp only[a4C,hq,hl]at hr ⊢;exact b1K h hr
  | true =>
   simp only[a4C,hq,hl]at hr ⊢;cases ho:a0e env e m g args H with
   | none=>grind
   | some r0 =>
    rw[ho]at hr;obtain⟨k,hk⟩:=b1K h ho;grind
theorem c6a (h:Chain c e)(hr:X6 env e fr H o=some r):∃k,X6 env (c k) fr H o=some r:=by
  unfold X6 at hr ⊢;split at hr<;>first
    | exact⟨0,hr⟩
    | (split at hr
       · first
         | exact c5i h hr
         | grind
         | (split at hr
            · exact b1K h hr
            grind)
       grind)
theorem b68 (h:Chain c e)(hr:U0 env e fr H o=some r):∃k,U0 env (c k) fr H o=some r:=by
 unfold U0 at hr ⊢;split at hr
 ·simp_all
 exact c6a h hr
theorem a9F (h:Chain c e){ops:Array Oper}:∀{l:List Oper} {fr:Fr} {H:Hp} {r:Res},M7 env e ops l fr H=some r -> ∃k,M7 env (c k) ops l fr H=some r
 | [],fr,H,r,hr=>⟨0,hr⟩
 | o::l,fr,H,r,hr=>by
  simp only[M7]at hr ⊢;cases hw:G6 ops o fr with
  | none=>grind
  | some b =>
   rw[hw]at hr;cases b with
   | false=>exact a9F h hr
   | true =>
    cases ho:U0 env e fr H o with
    | none=>grind
    | some x =>
     rw[ho]at hr;obtain⟨k,hk⟩:=b68 h ho;cases x with
     | val v H1 =>
      obtain⟨j,hj⟩:=a9F h hr;refine⟨max k j,?_⟩;rw[b0x (h.mono zGr) hk];exact a7g (h.mono zOm) hj
     | pan v H1=>grind
theorem b0J (h:Chain c e){L sl:List Nat}{ops:Array Oper}:∀{l:List Oper} {fr:Fr} {H:Hp} {r:Res},M9 env e L sl ops l fr H=some r -> ∃k,M9 env (c k) L sl ops l fr H=some r
 | [],fr,H,r,hr=>⟨0,hr⟩
 | o::l,fr,H,r,hr=>by
  simp only[M9]at hr ⊢;cases hw:G6 ops o fr with
  | none=>grind
  | some b =>
   rw[hw]at hr;cases b with
   | false=>exact b0J h hr
   | true =>
    cases hp:a6m env L sl fr H o with
    | false=>grind
    | true =>
    rw[hp]at hr;cases ho:U0 env e fr H o with
    | none=>grind
    | some x =>
     rw[ho]at hr;obtain⟨k,hk⟩:=b68 h ho;cases x with
     | val v H1 =>
      obtain⟨j,hj⟩:=b0J h hr;refine⟨max k j,?_⟩;rw[b0x (h.mono zGr) hk];exact a7x (h.mono zOm) hj
     | pan v H1=>grind
theorem c1x (h:Chain c e){r:Res}(hr:a7D env e nr ops S sl fr H=some r):∃k,a7D env (c k) nr ops S sl fr H=some r:=by
 unfold a7D at hr;split at hr
 ·grind
 rename_i ho;obtain⟨k,hk⟩:=a9F h ho;split at hr
 ·grind
 rename_i hL;cases hq:M9 env e _ sl ops _ fr H with
 | none=>rw[hq]at hr;grind
 | some x =>
  rw[hq]at hr;obtain⟨j,hj⟩:=b0J h hq;refine⟨max k j,?_⟩;unfold a7D;rw[a7g (h.mono zGr) hk];simp only[hL];rw[a7x (h.mono zGr) hj];grind
theorem b4t (h:Chain c e):∀{d:Code} {fr:Fr} {H:Hp} {r:Res},G8 env e f nr d fr H=some r -> ∃k,G8 env (c k) f nr d fr H=some r:=by
 intro d;induction d with
 | region id ops d =>
  intro fr H r hr;simp only[G8]at hr ⊢;split at hr
  ·exact c1x h hr
  cases ho:M7 env e ops ops.toList fr H with
  | none =>
   rw[ho]at hr;cases hd:(d&&env.loose f)<;>rw[hd]at hr<;>cases hr
  | some x=>rw[ho]at hr;obtain⟨k,hk⟩:=a9F h ho;grind
 | seq a b iha ihb =>
  intro fr H r hr;simp only[G8]at hr ⊢;cases ho:G8 env e f nr a fr H with
  | none=>grind
  | some x =>
   rw[ho]at hr;obtain⟨k,hk⟩:=iha ho;obtain⟨ex,fr1,H1⟩:=x;cases ex with
   | normal =>
    simp at hr ⊢;split at hr
    ·rename_i hcu;obtain⟨j,hj⟩:=ihb hr;refine⟨max k j,?_⟩;rw[a7w (h.mono zGr) hk];simp only[hcu];exact a7w (h.mono zGr) hj
    grind
   | _=>grind
 | cond c a b iha ihb =>
  intro fr H r hr;simp only[G8]at hr ⊢;cases hc:ev fr c with
  | none=>grind
  | some v =>
   rw[hc]at hr;cases v with
   | bool t=>cases t with
    | true=>grind
    | false=>grind
   | _=>grind
 | block id a iha =>
  intro fr H r hr;simp only[G8]at hr ⊢;grind
 | loop a iha =>
  intro fr H r hr;simp only[G8]at hr ⊢;cases hn:normal env f nr (a3q a) fr H with
  | none=>grind
  | some x =>
   rw[hn]at hr;simp at hr ⊢;split at hr
   ·rename_i ho;obtain⟨k,hk⟩:=h.at_ _ _ _ ho;grind
   grind
 | _=>intro fr H r hr;first|exact⟨0,hr⟩|omega
theorem c8X (h:Chain c e){o:Out}(hr:step env e t H=some o):∃k,step env (c k) t H=some o:=by
 cases t with
 | call g args =>
  simp only[step]at hr ⊢;cases hi:env.intr g with
  | some f =>
   rw[hi]at hr;cases f with
   | plain f=>simp_all
   | via pre post =>
    simp at hr ⊢;split at hr
    ·split at hr
     ·rename_i ho;obtain⟨k,hk⟩:=h.at_ _ _ _ ho;grind
     grind
    grind
  | none =>
   rw[hi]at hr;simp at hr ⊢;unfold a7l at hr ⊢;split at hr
   ·split at hr
    ·grind
    rename_i d hb;cases ho:G8 env e g H.length d _ H with
    | none=>rw[ho]at hr;grind
    | some x =>
     rw[ho]at hr;obtain⟨k,hk⟩:=b4t h ho;grind
   grind
 | loop f nr body fr =>
  simp only[step,a9a]at hr ⊢;cases ho:G8 env e f nr body fr H with
  | none=>grind
  | some x =>
   rw[ho]at hr;obtain⟨k,hk⟩:=b4t h ho;obtain⟨ex,fr1,H1⟩:=x;cases ex with
   | normal =>
    simp at hr ⊢;cases hn:normal env f nr _ fr1 H1 with
    | none=>rw[hn]at hr;grind
    | some y =>
     rw[hn]at hr;obtain⟨j,hj⟩:=h.at_ _ _ _ hr;refine⟨max k j,?_⟩;rw[a7w (h.mono zOm) hk];simp only[hn];exact h.mono zOm _ _ _ hj
   | _=>grind
end
theorem c5c {o:Out}(h:step env (E env) t H=some o):E env t H=some o:=by
 obtain⟨k,hk⟩:=c8X (a3O env) h;exact(a3O env).le (k+1) t H o hk
theorem E_call {o:Out}(hi:env.intr g=none)(h:a7l env (E env) g args H=some o):E env (.call g args) H=some o :=
 c5c (by simp only[step,hi];exact h)
theorem c07 {body:Code}{o:Out}(h:a9a env (E env) f nr body fr H=some o):E env (.loop f nr body fr) H=some o:=c5c h
theorem c5l (hE:a7M env){v:V}(hkp:KpW w)(h:E env (.call g args) []=some (.ret v []))(hx:L6 ⟨fun _=>none,fun _ _=>none⟩ (fun _ _=>none) w args xs) :
  Calls env.P g xs.toArray w fun e w'=>∃x ρ lab,e=.returned x/\Rel ρ lab w' v x/\RowKit.Below w.heap.size w w':=by
 obtain⟨k,hk⟩:=(a3O env).at_ _ _ _ h;refine((b4V hE k).1.call g args [] _ hk ⟨fun _=>none,fun _ _=>none⟩ _ w xs trivial ?_ hx).mono fun e w' he=>?_
 ·exact⟨Kp.none hkp,fun k cs h=>(by cases h),fun k e cs h=>(by cases h),fun k e n h=>(by cases h),fun k es h=>(by cases h),fun k n x h=>(by cases h),fun k x h=>(by cases h),fun b o k h=>(by cases h)⟩
 cases e with
 | returned x =>
  obtain⟨ρ',lab',h1,h2,h3,h4,h5⟩:=he;exact⟨x,ρ',lab',rfl,h4,⟨h2.os,h2.tape,h2.output,h2.size,fun b hb=>h2.blk b hb zGr⟩⟩
 | panicked ch=>exact he.elim
 | outgrown=>exact he.elim
theorem c5m (hE:a7M env)(hkp:KpW w)(h:E env (.call g args) []=some (.ret (.bool true) []))(hx:L6 ⟨fun _=>none,fun _ _=>none⟩ (fun _ _=>none) w args xs) :
  Calls env.P g xs.toArray w fun e w'=>e=.returned (.bool true)/\RowKit.Below w.heap.size w w' :=
 (c5l hE hkp h hx).mono fun e w' ⟨x,ρ,lab,h1,h2,h3⟩=>by cases h2;grind
end
variable {at_:Array TypeId} {body c:Code} {fn:Func} {H3 H4 Hc:Hp} {ns:List Nat} {ac args cs l l2 news:List V} {a b e g i k m n t w xt:Nat} {y ye yx:Ty} {v2 v4 x:V}
section
variable {env:Env} {orc:Orc} {f nr:Nat} {ops:Array Oper} {o:Oper} {rest:List Oper} {fr fr1:Fr} {H H1:Hp} {r:Option Res} {v:V} {K:Res->Prop}
theorem L9 {args:Array Operand}{v:V}(hw:G6 ops o fr=some true)(ho:o.op=.call ⟨.value (.func g),args,at_⟩)(hq:env.quiet g=true)
  (hl:evL fr args.toList=some l) (hr:a2r (a2K a7a dep) (l.map b1E)=some l2) (hc:orc (.call g l2) []=some (.ret v [])) (hv:a2K a7a dep v=some v2)
  (h:Os env orc ops rest (Y5 o.dst v2 fr) H K):Os env orc ops (o::rest) fr H K:=by
 have hp:Q6 o.op=false:=by rw[ho];rfl
 refine a3t hw hp   ?_ h;unfold X6;rw[ho];simp only[ev,hl,List.nil_append,List.append_nil,a4C,hq,a3B,hr,hc,hv]
theorem c0B {f:Operand}{args:Array Operand}{v:V}(hw:G6 ops o fr=some true)(ho:o.op=.call ⟨.value f,args,at_⟩)(hf:ev fr f=some (.func (.func g) [] []))
  (hq:env.quiet g=true) (hl:evL fr args.toList=some l) (hr:a2r (a2K a7a dep) (l.map b1E)=some l2) (hc:orc (.call g l2) []=some (.ret v [])) (hv:a2K a7a dep v=some v2)
  (h:Os env orc ops rest (Y5 o.dst v2 fr) H K):Os env orc ops (o::rest) fr H K:=by
 have hp:Q6 o.op=false:=by rw[ho];rfl
 refine a3t hw hp   ?_ h;unfold X6;rw[ho];simp only[hf,hl,List.nil_append,List.append_nil,a4C,hq,a3B,hr,hc,hv]
theorem b30 {args:Array Operand}{v:V}(hw:G6 ops o fr=some true)(ho:o.op=.call ⟨.value (.func g),args,at_⟩)
  (hl:evL fr args.toList=some l) (hc:a4C env orc (newName o) g l H=some (.val v H1))
  (h:Os env orc ops rest (Y5 o.dst v fr) H1 K):Os env orc ops (o::rest) fr H K:=by
 have hp:Q6 o.op=false:=by rw[ho];rfl
 refine a3t hw hp   ?_ h;unfold X6;rw[ho];simp only[ev,hl,List.nil_append,List.append_nil,hc]
def a9A (env:Env)(g:Nat)(args:List V)(H:Hp):Option (List Nat×List V×Hp) :=
 fL (a5s (env.argTags g) (env.a9z g) args) fun b9S =>
 fN (reach H 99 (b9S.flatMap (a3W dep)) []) fun ns =>
 match a2r (a2K (idx · ns) dep) b9S,a8q H (idx · ns) ns 0 with
 | some X5,some H2=>fL X5 fun X5=>fH H2 fun H2 =>
  fL (a6h (env.argTags g) X5 ns.length).1 fun a1 =>
  fH ((X9 H2 (a6h (env.argTags g) X5 ns.length).2).1++b4h ns.length ((X9 H2 (a6h (env.argTags g) X5 ns.length).2).2-ns.length)) fun Hb =>
  fL (b4v env.full a1 Hb).1 fun ac=>fH (b4v env.full a1 Hb).2 fun Hc=>some (ns,ac,Hc)
 | _,_=>none
theorem a9B (h:a9A env g args H=some (ns,ac,Hc)):∃X5 H2,reach H 99 ((a5s (env.argTags g) (env.a9z g) args).flatMap (a3W dep)) []=ns /\
  a2r (a2K (idx · ns) dep) (a5s (env.argTags g) (env.a9z g) args)=some X5/\a8q H (idx · ns) ns 0=some H2 /\
  b4v env.full (a6h (env.argTags g) X5 ns.length).1 ((X9 H2 (a6h (env.argTags g) X5 ns.length).2).1++b4h ns.length ((X9 H2 (a6h (env.argTags g) X5 ns.length).2).2-ns.length)) =(ac,Hc):=by
 unfold a9A at h;simp only[c3m,b99,b2w]at h;split at h
 ·rename_i X5 H2 h1 h2;simp at h;obtain⟨rfl,h3,h4⟩:=h;grind
 grind
theorem a7I {v:V}(hq:(env.quiet g||env.look g)=false)(hp:a9A env g args H=some (ns,ac,Hc))(hc:orc (.call g ac) Hc=some (.ret v H3))(h7:a7J (a2K (L8 ns k) dep v)=some v4)
  (h8:a0x (a3r (L8 ns k) H3 H)=some H4) (h9:a6x H H3 k ns.length=true):a4C env orc k g args H=some (.val v4 H4):=by
 obtain⟨hq,hlk⟩:=Bool.or_eq_false_iff.1 hq;rw[a3G]at h8;rw[b1e]at h7;obtain⟨X5,H2,h1,h2,h3,h4⟩:=a9B hp;simp only[a4C,hlk,a0e,hq,h1,h2,h3,h4,hc,h7,h8,h9]
theorem c2X {v:V}(hq:(env.quiet g||env.look g)=false)(hp:a9A env g args H=some (ns,ac,Hc))(hc:orc (.call g ac) Hc=some (.pan v H3))(h7:a7J (a2K (L8 ns k) dep v)=some v4)
  (h8:a0x (a3r (L8 ns k) H3 H)=some H4) (h9:a6x H H3 k ns.length=true):a4C env orc k g args H=some (.pan v4 H4):=by
 obtain⟨hq,hlk⟩:=Bool.or_eq_false_iff.1 hq;rw[a3G]at h8;rw[b1e]at h7;obtain⟨X5,H2,h1,h2,h3,h4⟩:=a9B hp;simp only[a4C,hlk,a0e,hq,h1,h2,h3,h4,hc,h7,h8,h9]
theorem c1g {v:V}(hq:env.quiet g=false)(hlk:env.look g=true)(hp:a9A env g args H=some (ns,ac,Hc))(hc:orc (.call g ac) Hc=some (.ret v H3))(h7:a7J (a2K (L8 ns k) dep v)=some v4)
  (h8:a0x (a3r (L8 ns k) H3 H)=some H) (h9:a6x H H3 k ns.length=true):a4C env orc k g args H=some (.val v4 H):=by
 rw[a3G]at h8;rw[b1e]at h7;obtain⟨X5,H2,h1,h2,h3,h4⟩:=a9B hp;simp only[a4C,hlk,a0e,hq,h1,h2,h3,h4,hc,h7,h8,h9,c3J,c6w]
theorem J3 {j d:Nat}{w c:Bool}{fr':Fr}(hg:o.guard=some (j,w))(hd:(ops[j]?).bind (·.dst)=some d)(hf:fr =(d,.bool c)::fr')
  (h1:c=true->Os env orc ops (o::rest) ((d,.bool true)::fr') H K) (h2:c=false->Os env orc ops (o::rest) ((d,.bool false)::fr') H K):Os env orc ops (o::rest) fr H K:=by
 subst hf;cases c with
 | true=>grind
 | false=>grind
theorem O6 {c:Operand}{a b:Code}{t:Bool}(hc:ev fr c=some (.bool t))(h1:t=true->Ev env orc f nr a fr H K)(h2:t=false->Ev env orc f nr b fr H K):Ev env orc f nr (.cond c a b) fr H K:=by
 cases t with
 | true=>exact Y9 hc rfl (h1 rfl)
 | false=>exact a0r hc rfl (h2 rfl)
theorem wrap64 {x:Int}(h1:-9223372036854775808<=x)(h2:x<9223372036854775808):IntKind.wrap .i64 x=x:=by
 simp only[IntKind.wrap,IntKind.bits,IntKind.signed];grind
theorem addN (h:i+k<9223372036854775808):a5E (some (.int .i64 (IntKind.wrap .i64 ((i:Int)+(k:Int)))))=some (.int .i64 ((i+k:Nat):Int)):=by
 rw[wrap64 zOm zOm];simp[a5E,fV]
theorem subN (h:k<=i)(hi:i<9223372036854775808):a5E (some (.int .i64 (IntKind.wrap .i64 ((i:Int)-(k:Int)))))=some (.int .i64 ((i-k:Nat):Int)):=by
 rw[wrap64 zOm zOm];simp only[a5E,fV];grind
theorem add1 (h:i<9223372036854775807):a5E (some (.int .i64 (IntKind.wrap .i64 ((i:Int)+1))))=some (.int .i64 ((i+1:Nat):Int)):=addN (k:=1) zOm
theorem add2 (h:i<9223372036854775806):a5E (some (.int .i64 (IntKind.wrap .i64 ((i:Int)+2))))=some (.int .i64 ((i+2:Nat):Int)):=addN (k:=2) zOm
theorem b9z (h:1<=i)(hi:i<9223372036854775808):a5E (some (.int .i64 (IntKind.wrap .i64 ((i:Int)-1))))=some (.int .i64 ((i-1:Nat):Int)):=subN  h hi
theorem W9 (h:i<n):inR (i:Int) n=true:=by simp only[inR,Bool.and_eq_true,decide_eq_true_eq];omega
theorem a6X (h1:a<=b)(h2:b<=n):inI (a:Int) (b:Int) n=true:=by simp only[inI,Bool.and_eq_true,decide_eq_true_eq];omega
theorem ltN (a b:Nat):ltB (a:Int) (b:Int)=decide (a<b):=by simp only[ltB];congr 1;simp
theorem leN_ (a b:Nat):leB (a:Int) (b:Int)=decide (a<=b):=by simp only[leB];congr 1;simp
theorem a9s (h:a<=b):leN a b=true:=by simp[leN,h]
theorem a2d (h:a=b):eqN a b=true:=by simp[eqN,h]
theorem c6Q {T:List (Nat×Ty)}(h1:O7 t T=some y)(h2:O7 xt T=some yx)(h3:y.sh=.slice e)(h4:a94 yx.sh=true)(h5:O7 e T=some ye)
  (h6:a7W T e x H=some (m,news)) (h7:Nat.beq m 0=false) (h8:hget g H=some (.tip w n)) (h9:w=0∨w=ye.size) (h10:Nat.beq ye.size 0=false) (h11:n*ye.size=cs.length) (h12:(n+m)*(ye.bytes+1)<=70368744177664) :
  a6S T t xt (.slice (.tag g) n cs) x H k=some (.val (.slice (.tag g) (n+m) (cs++news)) (hset g (.tip ye.size (n+m)) H)):=by
 have hw:(Nat.beq w 0||Nat.beq w ye.size)=true:=by simp_all
 simp only[a6S,h1,h2,h3,h4,h5,h6,h7,h8,hw,h10,a2d rfl,a2d h11,a9s h12,Bool.not_false,Bool.and_self,gd]
theorem a0P {a:Operand}{v:V}(hw:G6 ops o fr=some true)(ho:o.op=.load t a)(ha:ev fr a=some x)(hl:a6s env.T t x H=some v)(h:Os env orc ops rest (Y5 o.dst v fr) H K):Os env orc ops (o::rest) fr H K:=by
 have hp:Q6 o.op=false:=by rw[ho];rfl
 refine a3t hw hp   ?_ h;unfold X6;grind
theorem b0y {c:Operand}{v:V}(hw:G6 ops o fr=some true)(ho:o.op=.convert a b c)(ha:ev fr c=some x)(hl:b58 env.T a b x=some v)(h:Os env orc ops rest (Y5 o.dst v fr) H K):Os env orc ops (o::rest) fr H K:=by
 have hp:Q6 o.op=true:=by rw[ho];rfl
 refine a7c hw hp  ?_ h;rw[ho];simp only[a0Y,ha,hl]
theorem b46:∀l:List UInt8,a7p (a1n l)=some l
 | []=>rfl
 | b::r=>by
  have:=b46 r;simp only[a1n,List.map_cons]at this ⊢;simp only[a7p,this];simp_all
theorem half {x:Nat}(h:x<9223372036854775808):a5E (gd (!eqB (2:Int) 0) (some (.int .i64 (IntKind.wrap .i64 ((x:Int).tdiv 2)))))=some (.int .i64 ((x/2:Nat):Int)):=by
 have:(x:Int).tdiv 2 =((x/2:Nat)):=zGr;rw[this,wrap64 zOm zOm];have:(!eqB 2 0)=true:=by simp[eqB]
 rw[this];rfl
theorem a3I {n':Nat}{cs':List V}{args:Array Operand}{a b:Operand}(hw:G6 ops o fr=some true)(ho:o.op=.call ⟨.builtin .append,args,at_⟩)
  (ha:args.toList=[a,b]) (ht:at_.toList=[t,xt]) (hs:ev fr a=some (.slice (.tag g) n cs)) (hx:ev fr b=some x)
  (h1:O7 t env.T=some y) (h2:O7 xt env.T=some yx) (h3:y.sh=.slice e) (h4:a94 yx.sh=true) (h5:O7 e env.T=some ye)
  (h6:a7W env.T e x H=some (m,news)) (h7:Nat.beq m 0=false) (h8:hget g H=some (.tip w n)) (h9:w=0∨w=ye.size) (h10:Nat.beq ye.size 0=false) (h11:n*ye.size=cs.length) (h12:(n+m)*(ye.bytes+1)<=70368744177664)
  (hn:n+m=n') (hcs:cs++news=cs') (hH:a0x (some (hset g (.tip ye.size n') H))=some H1)
  (h:Os env orc ops rest (Y5 o.dst (.slice (.tag g) n' cs') fr) H1 K):Os env orc ops (o::rest) fr H K:=by
 have hp:Q6 o.op=false:=by rw[ho];rfl
 rw[a3G,Option.some.injEq]at hH;subst hH hn hcs;refine a3t hw hp ?_ h;unfold X6;rw[ho];simp only[ha,ht,hs,hx];exact c6Q h1 h2 h3 h4 h5 h6 h7 h8 h9 h10 h11 h12
def Lp (env:Env)(f nr:Nat)(body:Code)(fr:Fr)(H:Hp)(K:Res->Prop):Prop:=∃r,E env (.loop f nr body fr) H=some (.res r)/\K r
def b0e (env:Env)(f nr:Nat)(body:Code)(K:Res->Prop):Res->Prop |(.normal,fr,H)=>∃fr1 H1,normal env f nr (a3q body) fr H=some (fr1,H1)/\Lp env f nr body fr1 H1 K|r=>K r
theorem c3K (h:Ev env (E env) f nr body fr H (b0e env f nr body K)):Lp env f nr body fr H K:=by
 obtain⟨⟨e,fr1,H1⟩,h1,h2⟩:=h;cases e with
 | normal =>
  obtain⟨fr2,H2,h3,r,h4,h5⟩:=h2;exact⟨r,c07 (by simp only[a9a,h1,h3];grind),h5⟩
 | ret=>exact⟨_,c07 (by simp only[a9a,h1]),h2⟩
 | exit i=>exact⟨_,c07 (by simp only[a9a,h1]),h2⟩
 | panic v=>exact⟨_,c07 (by simp only[a9a,h1]),h2⟩
theorem a4M (hn:normal env f nr (a3q body) fr H=some (fr1,H1))(h:Lp env f nr body fr1 H1 K):Ev env (E env) f nr (.loop body) fr H K:=by
 obtain⟨r,h1,h2⟩:=h;exact⟨r,by simp only[G8,hn,h1],h2⟩
theorem Lp.mono {K K':Res->Prop}(h:Lp env f nr body fr H K)(hk:∀r,K r->K' r):Lp env f nr body fr H K':=by
 obtain⟨r,h1,h2⟩:=h;exact⟨r,h1,hk r h2⟩
theorem U3 {v1:V}{H2:Hp}(hi:env.intr g=none)(hf:env.P.funcs[g]? = some fn)(hok:env.ok g=true)(hb:fn.body=some c)
  (h:Ev env (E env) g H.length c (a6G 0 args) H (RetK env H.length fn.results.toList (env.frz g) (env.tags g) (env.b4g g) v1 H2)):E env (.call g args) H=some (.ret v1 H2) :=
 E_call hi (c2o hf hok hb h)
theorem call_out {out:Out}(hi:env.intr g=none)(hf:env.P.funcs[g]? = some fn)(hok:env.ok g=true)(hb:fn.body=some c)
  (h:Ev env (E env) g H.length c (a6G 0 args) H (OutK env g H.length fn.results.toList out)):E env (.call g args) H=some out :=
 E_call hi (run_out hf hok hb h)
def RetP (env:Env)(nr:Nat)(l:List ResultVar)(fz tg:Bool)(m:Nat->Bool)(P:V->Hp->Prop):Res->Prop |(.ret,fr,H1) |(.normal,fr,H1)=>∃v v1 H2,a88 env.T fr H1 l=some v/\finT fz tg m nr v H1=some (v1,H2)/\P v1 H2|_=>False
theorem b3I {P:V->Hp->Prop}(hi:env.intr g=none)(hf:env.P.funcs[g]? = some fn)(hok:env.ok g=true)(hb:fn.body=some c)
  (h:Ev env (E env) g H.length c (a6G 0 args) H (RetP env H.length fn.results.toList (env.frz g) (env.tags g) (env.b4g g) P)):∃v H2,E env (.call g args) H=some (.ret v H2)/\P v H2:=by
 obtain⟨⟨e,fr1,H1⟩,h1,h2⟩:=h;cases e with
 | normal =>
  obtain⟨v,v1,H2,h3,h4,h5⟩:=h2;exact⟨v1,H2,U3 hi hf hok hb ⟨_,h1,v,h3,h4⟩,h5⟩
 | ret =>
  obtain⟨v,v1,H2,h3,h4,h5⟩:=h2;exact⟨v1,H2,U3 hi hf hok hb ⟨_,h1,v,h3,h4⟩,h5⟩
 | exit i=>exact h2.elim
 | panic v=>exact h2.elim
theorem a6N {σ:Type}(F:σ->Fr)(G:σ->Hp)(P:σ->Prop)(μ:σ->Nat)(i:σ)(hP:P i)
  (round:∀j,P j ->(∀j',μ j'<μ j->P j'->Lp env f nr body (F j') (G j') K)->Ev env (E env) f nr body (F j) (G j) (b0e env f nr body K)):Lp env f nr body (F i) (G i) K:=by
 have key:∀m j,μ j=m->P j->Lp env f nr body (F j) (G j) K:=by
  intro m;induction m using Nat.strongRecOn with
  | _ m ih =>
   intro j hj hp;exact c3K zGr
 grind
end
variable {α:Type} {ops:Array Oper} {fz tg:Bool} {a b:Fr} {l:List ResultVar} {k:Nat} {m:Nat->Bool} {o:Oper} {r:Option Res} {v:V}
def Off (D:List Nat)(fr fr':Fr):Prop:=∀s,has s D=false->look s fr=look s fr'
theorem Off.refl {D:List Nat}{fr:Fr}:Off D fr fr:=fun _ _=>rfl
theorem Off.symm {D:List Nat}{fr fr':Fr}(h:Off D fr fr'):Off D fr' fr:=fun s hs=>(h s hs).symm
theorem Off.trans {D:List Nat}{c:Fr}(h:Off D a b)(g:Off D b c):Off D a c:=fun s hs=>(h s hs).trans (g s hs)
theorem Off.left {D:List Nat}(hk:has k D=true)(h:Off D a b):Off D ((k,v)::a) b:=by
 intro s hs;simp only[look];cases hb:Nat.beq k s with
 | true=>simp_all
 | false=>exact h s hs
theorem Off.right {D:List Nat}(hk:has k D=true)(h:Off D a b):Off D a ((k,v)::b):=(Off.left hk h.symm).symm
theorem Off.both {D:List Nat}(h:Off D a b):Off D ((k,v)::a) ((k,v)::b):=by
 intro s hs;simp only[look];cases Nat.beq k s with
 | true=>rfl
 | false=>exact h s hs
theorem Off.over {D:List Nat}(h:Off (k::D) a b):Off D ((k,v)::a) ((k,v)::b):=by
 intro s hs;simp only[look];cases hb:Nat.beq k s with
 | true=>rfl
 | false=>exact h s (by simp only[has,hb];omega)
def b1m (D:List Nat):Operand->Bool | .tmp t=>!has t D|_=>true
def offL (D:List Nat)(l:List Operand):Bool:=l.all (b1m D)
def offP (D:List Nat)(l:List (Nat×Operand)):Bool:=l.all fun p=>b1m D p.2
def offX (D:List Nat)(o:Option Operand):Bool:=match o with|none=>true|some x=>b1m D x
def c0A (D:List Nat):Op->Bool
 | .move x | .assign x | .nilCheck x | .unOp _ _ x | .convert _ _ x | .makeInterface _ x | .fieldAddr _ x _ | .field _ x _ | .typeAssert x .. | .extract x _ | .load _ x | .box _ x | .panic x=>b1m D x
 | .pick a b c=>b1m D a&&b1m D b&&b1m D c
 | .build _ ps | .buildSlice _ _ ps=>offP D ps.toList
 | .binOp _ _ x y _ | .indexAddr _ x y | .index _ x y | .store _ x y | .makeSlice _ x y | .lookup _ x y _=>b1m D x&&b1m D y
 | .mapUpdate _ x y z | .insert _ x y z=>b1m D x&&b1m D y&&b1m D z
 | .makeMap _ (some r)=>b1m D r
 | .makeFunc _ a b=>offL D a.toList&&offL D b.toList
 | .slice _ x lo hi mx=>b1m D x&&offX D lo&&offX D hi&&offX D mx
 | .alloc _ | .makeMap _ none=>true
 | .call c=>offL D c.args.toList&&(match c.callee with | .value f=>b1m D f | .invoke r _=>b1m D r|_=>true)
 | _=>false
section
variable {D:List Nat} {fr fr':Fr}
theorem V9 (h:Off D fr fr'){o:Operand}(ho:b1m D o=true):ev fr o=ev fr' o:=by
 cases o with
 | tmp t=>simp only[b1m,Bool.not_eq_true']at ho;simp only[ev,h t ho]
 | _=>rfl
theorem b5k (h:Off D fr fr'):∀{l:List Operand},offL D l=true->evL fr l=evL fr' l
 | [],_=>rfl
 | o::l,ho=>by
  simp only[offL,List.all_cons,Bool.and_eq_true]at ho;have:=b5k h  ho.2;simp only[evL,a2r]at this ⊢;rw[V9 h ho.1,this]
theorem c1t (h:Off D fr fr'):∀{l:List (Nat×Operand)},offP D l=true->evP fr l=evP fr' l
 | [],_=>rfl
 | o::l,ho=>by
  simp only[offP,List.all_cons,Bool.and_eq_true]at ho;have:=c1t h  ho.2;simp only[evP,a2r]at this ⊢;rw[V9 h ho.1,this]
theorem c1u (h:Off D fr fr'){o:Option Operand}(ho:offX D o=true):evX fr o=evX fr' o:=by
 cases o with
 | none=>rfl
 | some x=>simp only[evX,V9 h  ho]
theorem c9a (h:Off D fr fr'){T:List (Nat×Ty)}{o:Op}(ho:c0A D o=true):a0Y T fr o=a0Y T fr' o:=by
 cases o<;>simp only[c0A,Bool.and_eq_true]at ho<;>try rfl
 case move x=>simp only[a0Y,V9 h ho]
 case assign x=>simp only[a0Y,V9 h ho]
 case nilCheck x=>simp only[a0Y,V9 h ho]
 case unOp x=>simp only[a0Y,V9 h ho]
 case convert x=>simp only[a0Y,V9 h ho]
 case makeInterface x=>simp only[a0Y,V9 h ho]
 case fieldAddr x _=>simp only[a0Y,V9 h ho]
 case field x _=>simp only[a0Y,V9 h ho]
 case typeAssert x _ _ _=>simp only[a0Y,V9 h ho]
 case extract x _=>simp only[a0Y,V9 h ho]
 case pick=>simp only[a0Y,V9 h ho.1.1,V9 h ho.1.2,V9 h ho.2]
 case build=>simp only[a0Y,c1t h ho]
 case buildSlice=>simp only[a0Y,c1t h ho]
 case binOp=>simp only[a0Y,V9 h ho.1,V9 h ho.2]
 case indexAddr=>simp only[a0Y,V9 h ho.1,V9 h ho.2]
 case index=>simp only[a0Y,V9 h ho.1,V9 h ho.2]
 case makeFunc=>simp only[a0Y,b5k h ho.1,b5k h ho.2]
 case slice=>simp only[a0Y,V9 h ho.1.1.1,c1u h ho.1.1.2,c1u h ho.1.2,c1u h ho.2]
 case call c =>
  obtain⟨callee,args,at_⟩:=c;cases callee with
  | builtin b =>
   cases b<;>try rfl
   case len =>
    simp only[a0Y];generalize hl:args.toList=l at ho;generalize at_.toList=ts;match l,ts with
    | [x],t::_=>simp only[offL,List.all_cons,Bool.and_eq_true]at ho;simp only[V9 h ho.1.1]
    | [],_=>rfl
    | _::_::_,_=>rfl
    | [_],[]=>rfl
   case min =>
    simp only[a0Y];generalize hl:args.toList=l at ho;match l with
    | [x,y]=>simp only[offL,List.all_cons,Bool.and_eq_true]at ho;simp only[V9 h ho.1.1,V9 h ho.1.2.1]
    | []=>rfl
    | [_]=>rfl
    | _::_::_::_=>rfl
   case max =>
    simp only[a0Y];generalize hl:args.toList=l at ho;match l with
    | [x,y]=>simp only[offL,List.all_cons,Bool.and_eq_true]at ho;simp only[V9 h ho.1.1,V9 h ho.1.2.1]
    | []=>rfl
    | [_]=>rfl
    | _::_::_::_=>rfl
  | _=>rfl
theorem c6c {env:Env}{orc:Orc}{H:Hp}(h:Off D fr fr')(ho:c0A D o.op=true):U0 env orc fr H o=U0 env orc fr' H o:=by
 unfold U0 X6 newName;generalize o.op=op at ho;rw[c9a h ho];cases hp:Q6 op with
 | true=>rfl
 | false =>
  cases op<;>simp only[c0A,Bool.and_eq_true]at ho<;>try rfl
  case makeMap t r =>
   cases r with
   | none=>rfl
   | some r=>simp only[V9 h  zOm]
  case lookup=>simp only[V9 h ho.1,V9 h ho.2]
  case mapUpdate=>simp only[V9 h ho.1.1,V9 h ho.1.2,V9 h ho.2]
  case insert=>simp only[V9 h ho.1.1,V9 h ho.1.2,V9 h ho.2]
  case load=>simp only[V9 h ho]
  case box=>simp only[V9 h ho]
  case panic=>simp only[V9 h ho]
  case store=>simp only[V9 h ho.1,V9 h ho.2]
  case makeSlice=>simp only[V9 h ho.1,V9 h ho.2]
  case call c =>
   obtain⟨callee,args,at_⟩:=c;cases callee with
   | builtin b =>
    cases b<;>try rfl
    case append =>
     simp only;generalize hl:args.toList=l at ho;generalize at_.toList=ts;match l,ts with
     | [x,y],[t,u]=>simp only[offL,List.all_cons,Bool.and_eq_true]at ho;simp only[V9 h ho.1.1,V9 h ho.1.2.1]
     | [],_=>rfl
     | [_],_=>rfl
     | _::_::_::_,_=>rfl
     | [_,_],[]=>rfl
     | [_,_],[_]=>rfl
     | [_,_],_::_::_::_=>rfl
    case copy =>
     simp only;generalize hl:args.toList=l at ho;generalize at_.toList=ts;match l,ts with
     | [x,y],[t,u]=>simp only[offL,List.all_cons,Bool.and_eq_true]at ho;simp only[V9 h ho.1.1,V9 h ho.1.2.1]
     | [],_=>rfl
     | [_],_=>rfl
     | _::_::_::_,_=>rfl
     | [_,_],[]=>rfl
     | [_,_],[_]=>rfl
     | [_,_],_::_::_::_=>rfl
   | value f=>simp only[V9 h ho.2,b5k h ho.1]
   | invoke r m=>simp only[V9 h ho.2,b5k h ho.1]
def b0w (D:List Nat)(ops:Array Oper)(o:Oper):Bool:=c0A D o.op&&(match o.guard with|none=>true|some (j,_)=>match (ops[j]?).bind (·.dst)with|some t=>!has t D|none=>true)
theorem c4O (h:Off D fr fr')(ho:b0w D ops o=true):G6 ops o fr=G6 ops o fr':=by
 simp only[b0w,Bool.and_eq_true]at ho;unfold G6;cases hg:o.guard with
 | none=>rfl
 | some x =>
  obtain⟨j,w⟩:=x;have h2:=ho.2;rw[hg]at h2;simp at h2 ⊢;unfold b3G;cases hd:(ops[j]?).bind (·.dst)with
  | none=>rfl
  | some t =>
   rw[hd]at h2;simp at h2;simp only[h t h2]
theorem Off.put (h:Off D fr fr'){d:Option Nat}:Off D (Y5 d v fr) (Y5 d v fr'):=by
 cases d with
 | none=>exact h
 | some d=>exact h.both
def OffR (D:List Nat):Option Res->Option Res->Prop|none,none=>True|some (e,fr,H),some (e',fr',H')=>e=e'/\H=H'/\Off D fr fr'|_,_=>False
theorem OffR.refl:OffR D r r:=by
 cases r with
 | none=>trivial
 | some r=>exact⟨rfl,rfl,.refl⟩
theorem b23 {env:Env}{orc:Orc}{ops:Array Oper}:∀{l:List Oper} {fr fr':Fr} {H:Hp},Off D fr fr'->l.all (b0w D ops)=true->OffR D (M7 env orc ops l fr H) (M7 env orc ops l fr' H)
 | [],fr,fr',H,h,_=>⟨rfl,rfl,h⟩
 | o::l,fr,fr',H,h,ho=>by
  simp only[List.all_cons,Bool.and_eq_true]at ho;have h2 :=by have:=ho.1;simp only[b0w,Bool.and_eq_true]at this;exact this.1
  simp only[M7];rw[c4O h ho.1,c6c h h2];cases G6 ops o fr' with
  | none=>trivial
  | some b =>
   cases b with
   | false=>exact b23 h.put ho.2
   | true =>
    cases U0 env orc fr' H o with
    | none=>trivial
    | some r =>
     cases r with
     | val v H1=>exact b23 h.put ho.2
     | pan v H1=>exact⟨rfl,rfl,h⟩
def b5A (env:Env)(f:Nat)(D:List Nat):Code->Bool | .region id ops d=>!isSome (b4C env f id d)&&ops.toList.all (b0w D ops) | .seq a b=>!env.cut f (a5C b)&&b5A env f D a&&b5A env f D b | .cond c a b=>b1m D c&&b5A env f D a&&b5A env f D b | .block _ c=>b5A env f D c | .loop body=>!isSome (env.ice f (a3q body))&&(env.keep f (a3q body)).all fun s=>!has s D | .skip | .label _ | .exit _ | .ret=>true|_=>false
theorem b8W {env:Env}{f nr lp:Nat}{H:Hp}(h:Off D fr fr')(hk:(!isSome (env.ice f lp)&&(env.keep f lp).all fun s=>!has s D)=true):normal env f nr lp fr H=normal env f nr lp fr' H:=by
 simp only[Bool.and_eq_true,Bool.not_eq_true']at hk;obtain⟨hi,hk⟩:=hk;have hi:env.ice f lp=none:=by
  cases hq:env.ice f lp with
  | none=>rfl
  | some x=>rw[hq]at hi;cases hi
 have:((env.keep f lp).map fun s=>(s,look s fr)) =((env.keep f lp).map fun s=>(s,look s fr')):=by
  apply List.map_congr_left;intro s hs;have:=List.all_eq_true.1 hk s hs;rw[h s zGr]
 unfold normal;rw[hi];unfold b5z;grind
theorem c8u {b:Bool}(hc:ops.toList.all (b0w D ops)=true){r':Option Res}(h:OffR D r r'):OffR D (a9g b ops r) (a9g b ops r'):=by
 cases b with
 | false=>exact h
 | true =>
  cases r with
  | none =>
   cases r' with
   | none=>trivial
   | some r'=>exact h.elim
  | some r =>
   cases r' with
   | none=>exact h.elim
   | some r' =>
    obtain⟨e,g,H1⟩:=r;obtain⟨e',g',H1'⟩:=r';obtain⟨rfl,rfl,h3⟩:=h;cases e with
    | normal =>
     have he :=by
      have key:∀l ,l.all (b0w D ops)=true ->((a6F l).all fun t=>b1R (look t g)) =((a6F l).all fun t=>b1R (look t g')):=by
       intro l;induction l with
       | nil=>intro _;rfl
       | cons o l ih =>
        intro hl;simp only[List.all_cons,Bool.and_eq_true]at hl;simp only[a6F];cases ht:a6I o with
        | none=>grind
        | some t =>
         simp;rw[ih hl.2];have h4 :=by
          have h5:=hl.1;simp only[b0w,Bool.and_eq_true]at h5;unfold a6I at ht;split at ht
          ·rename_i ty t' hop;cases ht;have h6:=h5.1;rw[hop]at h6;simpa [c0A,b1m]using h6
          grind
         rw[h3 t h4]
      exact key _ hc
     simp only[a9g,he];cases(a6F ops.toList).all fun t=>b1R (look t g')with
     | true=>exact⟨rfl,rfl,h3⟩
     | false=>trivial
    | ret=>trivial
    | exit i=>trivial
    | panic v=>trivial
theorem c1w {env:Env}{orc:Orc}{f nr:Nat}:∀{c:Code} {fr fr':Fr} {H:Hp},Off D fr fr'->b5A env f D c=true->OffR D (G8 env orc f nr c fr H) (G8 env orc f nr c fr' H):=by
 intro c;induction c with
 | region id ops d =>
  intro fr fr' H h hc;simp only[b5A,Bool.and_eq_true,Bool.not_eq_true']at hc;obtain⟨hs,hc⟩:=hc;have hs2:b4C env f id d=none:=by
   cases hq:b4C env f id d with
   | none=>rfl
   | some x=>rw[hq]at hs;cases hs
  simp only[G8,hs2];refine c8u hc ?_;have:=b23 (env:=env) (orc:=orc)  (H:=H) h hc;revert this;cases M7 env orc ops ops.toList fr H with
  | none =>
   cases M7 env orc ops ops.toList fr' H with
   | none=>grind
   | some r=>intro h;exact h.elim
  | some r =>
   cases M7 env orc ops ops.toList fr' H with
   | none=>intro h;exact h.elim
   | some r' =>
    obtain⟨e,g,H1⟩:=r;obtain⟨e',g',H1'⟩:=r';rintro⟨rfl,rfl,h3⟩;cases e with
    | panic v=>cases d with
     | true=>trivial
     | false=>exact⟨rfl,rfl,h3⟩
    | _=>exact⟨rfl,rfl,h3⟩
 | seq a b iha ihb =>
  intro fr fr' H h hc;simp only[b5A,Bool.and_eq_true,Bool.not_eq_true']at hc;simp only[G8,cutAt,hc.1.1];have:=iha (H:=H) h hc.1.2;revert this;cases G8 env orc f nr a fr H with
  | none =>
   cases G8 env orc f nr a fr' H with
   | none=>grind
   | some r=>intro h;exact h.elim
  | some r =>
   cases G8 env orc f nr a fr' H with
   | none=>intro h;exact h.elim
   | some r' =>
    obtain⟨e,g,H1⟩:=r;obtain⟨e',g',H1'⟩:=r';rintro⟨rfl,rfl,h3⟩;cases e with
    | normal=>grind
    | _=>exact⟨rfl,rfl,h3⟩
 | cond c a b iha ihb =>
  intro fr fr' H h hc;simp only[b5A,Bool.and_eq_true]at hc;simp only[G8];rw[V9 h hc.1.1];cases ev fr' c with
  | none=>trivial
  | some v =>
   cases v with
   | bool t=>grind
   | _=>trivial
 | block id a iha =>
  intro fr fr' H h hc;simp only[G8];have:=iha (H:=H) h hc;revert this;cases G8 env orc f nr a fr H with
  | none =>
   cases G8 env orc f nr a fr' H with
   | none=>grind
   | some r=>intro h;exact h.elim
  | some r =>
   cases G8 env orc f nr a fr' H with
   | none=>intro h;exact h.elim
   | some r' =>
    obtain⟨e,g,H1⟩:=r;obtain⟨e',g',H1'⟩:=r';rintro⟨rfl,rfl,h3⟩;cases e with
    | exit i =>
     simp only;cases Nat.beq i id with
     | true=>exact⟨rfl,rfl,h3⟩
     | false=>exact⟨rfl,rfl,h3⟩
    | _=>exact⟨rfl,rfl,h3⟩
 | loop a iha =>
  intro fr fr' H h hc;simp only[b5A]at hc;simp only[G8];rw[b8W h hc];exact .refl
 | skip=>intro fr fr' H h _;exact⟨rfl,rfl,h⟩
 | label=>intro fr fr' H h _;exact⟨rfl,rfl,h⟩
 | exit=>intro fr fr' H h _;exact⟨rfl,rfl,h⟩
 | ret=>intro fr fr' H h _;exact⟨rfl,rfl,h⟩
 | _=>intro fr fr' H h hc;cases hc
section
variable {env:Env} {orc:Orc} {f nr:Nat} {H H1:Hp} {K:Res->Prop}
def b6e (D:List Nat)(K:Res->Prop):Prop:=∀e g g' H,Off D g g'->K (e,g,H)->K (e,g',H)
theorem b98 {c:Code}(D:List Nat)(hc:b5A env f D c=true)(hK:b6e D K){fr fr':Fr}(ho:Off D fr' fr)(h:Ev env orc f nr c fr' H K):Ev env orc f nr c fr H K:=by
 obtain⟨⟨e,g,H1⟩,h1,h2⟩:=h;have:=c1w  (orc:=orc) (nr:=nr) (H:=H) ho hc;rw[h1]at this;revert this;cases hq:G8 env orc f nr c fr H with
 | none=>intro h;exact h.elim
 | some r =>
  rintro⟨rfl,rfl,h3⟩;exact⟨_,hq,hK _ _ _ _ h3 h2⟩
theorem c8P {b:Code}(hb:b5A env f D b=true)(hK:b6e D K):b6e D (thenK env orc f nr b K):=by
 intro e g g' H ho h;cases e with
 | normal=>exact b98 D hb hK ho h
 | _=>exact hK _ _ _ _ ho h
theorem c6q {id:Nat}(hK:b6e D K):b6e D (c1e id K):=by
 intro e g g' H ho h;cases e with
 | exit i =>
  simp only[c1e]at h ⊢;cases hb:Nat.beq i id with
  | true=>rw[hb]at h;exact hK _ _ _ _ ho h
  | false=>rw[hb]at h;exact hK _ _ _ _ ho h
 | _=>exact hK _ _ _ _ ho h
theorem c6r {body:Code}(hk:(!isSome (env.ice f (a3q body))&&(env.keep f (a3q body)).all fun s=>!has s D)=true)(hK:b6e D K):b6e D (b0e env f nr body K):=by
 intro e g g' H ho h;cases e with
 | normal =>
  obtain⟨fr1,H1,h1,h2⟩:=h;exact⟨fr1,H1,by rw[<-b8W ho hk];grind,h2⟩
 | _=>exact hK _ _ _ _ ho h
def b8X (D:List Nat)(l:List ResultVar):Bool:=l.all fun | .tmp t=>!has t D | .cell t _=>!has t D
theorem b0E {T:List (Nat×Ty)}(h:Off D fr fr')(hl:b8X D l=true):a88 T fr H l=a88 T fr' H l:=by
 have:∀{l:List ResultVar},b8X D l=true->a2r (b9l T fr H) l=a2r (b9l T fr' H) l:=by
  intro l;induction l with
  | nil=>intro _;rfl
  | cons r l ih =>
   intro hl;simp only[b8X,List.all_cons,Bool.and_eq_true]at hl;have h1:b9l T fr H r=b9l T fr' H r:=by
    cases r with
    | tmp t=>simp only[b9l,h t zGr]
    | cell t _=>simp only[b9l,h t zGr]
   simp only[a2r];rw[h1,ih hl.2]
 unfold a88;grind
theorem resp_ret {v1:V}{H2:Hp}(hl:b8X D l=true):b6e D (RetK env nr l fz tg m v1 H2):=by
 intro e g g' H ho h;cases e with
 | normal=>obtain⟨v,h1,h2⟩:=h;exact⟨v,by rw[<-b0E ho hl];omega,h2⟩
 | ret=>obtain⟨v,h1,h2⟩:=h;exact⟨v,by rw[<-b0E ho hl];grind,h2⟩
 | _=>exact h
theorem c8O {P:V->Hp->Prop}(hl:b8X D l=true):b6e D (RetP env nr l fz tg m P):=by
 intro e g g' H ho h;cases e with
 | normal=>obtain⟨v,v1,H2,h1,h2⟩:=h;exact⟨v,v1,H2,by rw[<-b0E ho hl];omega,h2⟩
 | ret=>obtain⟨v,v1,H2,h1,h2⟩:=h;exact⟨v,v1,H2,by rw[<-b0E ho hl];grind,h2⟩
 | _=>exact h
def joinK {α:Type}(D:List Nat)(F:α->Fr)(G:α->Hp)(Q:α->Prop)(K:Res->Prop):Res->Prop |(.normal,g,H)=>∃x,Q x/\Off D (F x) g/\H=G x|r=>K r
theorem ev_join {a b:Code}{fr:Fr}(D:List Nat)(F:α->Fr->Fr)(G:α->Hp->Hp)(Q:α->Prop)(hb:b5A env f D b=true)(hK:b6e D K)
  (h1:Ev env orc f nr a fr H (joinK D (fun x=>F x fr) (fun x=>G x H) Q K)) (h2:∀x,Q x->Ev env orc f nr b (F x fr) (G x H) K) (hcu:env.cut f (a5C b)=false:=by rfl):Ev env orc f nr (.seq a b) fr H K:=by
 refine E8 ?_ hcu;obtain⟨⟨e,g,H1⟩,h3,h4⟩:=h1;refine⟨_,h3,?_⟩;cases e with
 | normal =>
  obtain⟨x,hx,ho,rfl⟩:=h4;exact b98 D hb hK ho (h2 x hx)
 | _=>exact h4
theorem a3V {a b:Code}{fr:Fr}(D:List Nat)(F:α->Fr->Fr)(Q:α->Prop)(hb:b5A env f D b=true)(hK:b6e D K)
  (h1:Ev env orc f nr a fr H (joinK D (fun x=>F x fr) (fun _=>H) Q K)) (h2:∀x,Q x->Ev env orc f nr b (F x fr) H K) (hcu:env.cut f (a5C b)=false:=by rfl):Ev env orc f nr (.seq a b) fr H K :=
 ev_join D F (fun _ H=>H) Q hb hK h1 h2 hcu
theorem c8N {D D':List Nat}{F:α->Fr}{G:α->Hp}{Q:α->Prop}(hD:(D'.all fun s=>has s D)=true)(hK:b6e D' K):b6e D' (joinK D F G Q K):=by
 intro e g g' H ho h;have hs:∀{s},has s D=false->has s D'=false:=by
  intro s hs;have key:∀l ,has s l=true ->(l.all fun s=>has s D)=true->has s D=true:=by
   intro l;induction l with
   | nil=>intro h;cases h
   | cons a l ih =>
    intro h1 h2;simp only[List.all_cons,Bool.and_eq_true]at h2;simp only[has]at h1;cases hb:Nat.beq a s with
    | true=>simp_all
    | false=>grind
  grind
 cases e with
 | normal =>
  obtain⟨x,hx,h1,h2⟩:=h;exact⟨x,hx,fun s h3=>(h1 s h3).trans (ho s (hs h3)),h2⟩
 | _=>exact hK _ _ _ _ ho h
theorem Off.noop {D:List Nat}(hl:look k b=v)(h:Off D a b):Off D ((k,v)::a) b:=by
 intro s hs;simp only[look];cases hb:Nat.beq k s with
 | true=>simp_all
 | false=>exact h s hs
theorem Off.noop2 {D:List Nat}(hl:look k b=v)(h:Off (k::D) a b):Off D ((k,v)::a) b:=by
 intro s hs;simp only[look];cases hb:Nat.beq k s with
 | true=>simp_all
 | false=>exact h s (by simp only[has,hb];omega)
end
end
variable {t:Nat} {a b:Operand} {x:V}
section
variable {env:Env} {orc:Orc} {ops:Array Oper} {o:Oper} {rest:List Oper} {fr:Fr} {H H1:Hp} {K:Res->Prop}
theorem c3R {v:V}(hw:G6 ops o fr=some true)(ho:o.op=.store t a b)(ha:ev fr a=some x)(hb:ev fr b=some v)(hs:a0x (a7e env.T t x v H)=some H1)(h:Os env orc ops rest (Y5 o.dst .undef fr) H1 K):Os env orc ops (o::rest) fr H K:=by
 rw[a3G]at hs;have hp:Q6 o.op=false:=by rw[ho];rfl
 refine a3t hw hp (v:=.undef) (H1:=H1) ?_ h;unfold X6;rw[ho];simp only[ha,hb,hs]
theorem b80 {args:Array Operand}{at_:Array TypeId}{xt e r n m w off:Nat}{y yx ye:Ty}{cs news:List V}(hw:G6 ops o fr=some true)(ho:o.op=.call ⟨.builtin .append,args,at_⟩)
  (ha:args.toList=[a,b]) (ht:at_.toList=[t,xt]) (hs:ev fr a=some (.rslice r off n true)) (hx:ev fr b=some x)
  (h1:O7 t env.T=some y) (h2:O7 xt env.T=some yx) (h3:y.sh=.slice e) (h4:a94 yx.sh=true) (h5:O7 e env.T=some ye)
  (h6:a7W env.T e x H=some (m,news)) (h7:Nat.beq m 0=false) (h8:hget r H=some (.grow w cs)) (h9:hget (newName o) H=none) (h10:Nat.beq w ye.size=true) (h11:Nat.beq w 0=false) (h12:n*w<=cs.length) (h13:(n+m)*(ye.bytes+1)<=70368744177664)
  {new:List V} (hnew:cs.take (n*w)++news=new) (hH:a0x (some (hset r .gone (hset (newName o) (.grow w new) H)))=some H1)
  (h:Os env orc ops rest (Y5 o.dst (.rslice (newName o) 0 (n+m) true) fr) H1 K):Os env orc ops (o::rest) fr H K:=by
 have hp:Q6 o.op=false:=by rw[ho];rfl
 rw[a3G,Option.some.injEq]at hH;subst hH hnew;refine a3t hw hp ?_ h;unfold X6;rw[ho];simp only[ha,ht,hs,hx,a6S,h1,h2,h3,h4,h5,h6,h7,h8,h9,h10,h11,a9s h12,a9s h13,Bool.not_false,Bool.and_self,gd]
end
end Go.Vm
namespace Go.Vm
variable {args:Array Operand} {at_:Array TypeId} {i j:Int} {k:IntKind} {L sl:List Nat} {c l:List V} {bytes d e g t xt:Nat} {a b:Operand} {hi lo:Option Operand} {h' l':Option V} {y ye yx z:Ty} {v:V}
abbrev Str:=List UInt8
variable {s x:Str}
inductive Rs (α β:Type) where
 | ok (a:α)
 | pan (b:β)
inductive Lr (α ρ:Type) where
 | brk (a:α)
 | out (r:ρ)
section
variable {α β γ δ ρ:Type}
def D6 (o:Option (Rs α β))(k:α->Option γ)(p:β->Option γ):Option γ:=match o with
 | none=>none
 | some (.ok a)=>k a
 | some (.pan b)=>p b
def T9 (o:Option (Lr α ρ))(k:α->Option ρ):Option ρ:=match o with
 | none=>none
 | some (.brk a)=>k a
 | some (.out r)=>some r
def a8F (o:Option (Lr α ρ))(k:α->Option (Lr γ ρ)):Option (Lr γ ρ):=match o with
 | none=>none
 | some (.brk a)=>k a
 | some (.out r)=>some (.out r)
theorem a6u {o:Option α}{k:α->Option γ}{r:γ}(h:o.bind k=some r):∃x,o=some x/\k x=some r:=by
 cases o with
 | none=>cases h
 | some x=>grind
theorem c77 {o:Option (Rs α β)}{k:α->Option γ}{p:β->Option γ}{r:γ}(h:D6 o k p=some r):(∃a,o=some (.ok a)/\k a=some r) ∨ ∃b,o=some (.pan b)/\p b=some r:=by
 cases o with
 | none=>cases h
 | some x=>cases x with
  | ok a=>exact .inl ⟨a,rfl,h⟩
  | pan b=>exact .inr ⟨b,rfl,h⟩
theorem c74 {o:Option (Lr α ρ)}{k:α->Option ρ}{r:ρ}(h:T9 o k=some r):∃y,o=some y/\(match y with | .brk a=>k a | .out r'=>some r')=some r:=by
 cases o with
 | none=>cases h
 | some x=>cases x with
  | brk a=>exact⟨_,rfl,h⟩
  | out b=>exact⟨_,rfl,h⟩
theorem c78 {o:Option (Lr α ρ)}{k:α->Option (Lr γ ρ)}{r:Lr γ ρ}(h:a8F o k=some r):∃y,o=some y/\(match y with | .brk a=>k a | .out r'=>some (.out r'))=some r:=by
 cases o with
 | none=>cases h
 | some x=>cases x with
  | brk a=>exact⟨_,rfl,h⟩
  | out b=>exact⟨_,rfl,h⟩
def idx' (l:List α)(i:Int):Option α:=match inR i l.length with
 | true=>l[i.toNat]?
 | false=>none
def idxS (s:Str)(i:Int):Option Int:=match inR i s.length with
 | true=>some ((s.getD i.toNat 0).toNat:Nat)
 | false=>none
def b9A (s:Str)(a b:Int):Option Str:=match inI a b s.length with
 | true=>some ((s.take b.toNat).drop a.toNat)
 | false=>none
def a9p (l:List α)(a b:Int):Option (List α):=match inI a b l.length with
 | true=>some ((l.take b.toNat).drop a.toNat)
 | false=>none
def cat (a b:Str):Option Str:=match leB ((a.length+b.length:Nat):Int) 9223372036854775807 with
 | true=>some (a++b)
 | false=>none
def app (bytes:Nat)(l m:List α):Option (List α):=match leN ((l.length+m.length)*(bytes+1)) 70368744177664 with
 | true=>some (l++m)
 | false=>none
def gdO (c:Bool)(x:Option γ):Option γ:=match c with
 | true=>x
 | false=>none
theorem gdO_inv {c:Bool}{x:Option γ}{r:γ}(h:gdO c x=some r):c=true/\x=some r:=by
 cases c with
 | true=>exact⟨rfl,h⟩
 | false=>cases h
theorem idx'_inv {l:List α}{x:α}(h:idx' l i=some x):inR i l.length=true/\l[i.toNat]? = some x:=by
 unfold idx' at h;grind
theorem idxS_inv {x:Int}(h:idxS s i=some x):inR i s.length=true/\((s.getD i.toNat 0).toNat:Nat)=x:=by
 unfold idxS at h;grind
theorem subS_inv {a b:Int}(h:b9A s a b=some x):inI a b s.length=true/\(s.take b.toNat).drop a.toNat=x:=by
 unfold b9A at h;grind
theorem subL_inv {l x:List α}{a b:Int}(h:a9p l a b=some x):inI a b l.length=true/\(l.take b.toNat).drop a.toNat=x:=by
 unfold a9p at h;grind
theorem cat_inv {a b:Str}(h:cat a b=some x):leB ((a.length+b.length:Nat):Int) 9223372036854775807=true/\a++b=x:=by
 unfold cat at h;grind
theorem b7u {l m x:List α}(h:app bytes l m=some x):(l.length+m.length)*(bytes+1)<=70368744177664/\l++m=x:=by
 unfold app at h;cases hc:leN _ 70368744177664 with
 | true=>rw[hc]at h;exact⟨by simpa [leN]using hc,Option.some.inj h⟩
 | false=>grind
end
structure a5B {α:Type}(sz:Nat)(c1:α->List V)(cl:List α->List V):Prop where
 len:∀x,(c1 x).length=sz
 nil:cl []=[]
 cons:∀x r,cl (x::r)=c1 x++cl r
section
variable {α:Type} {sz:Nat} {c1:α->List V} {cl:List α->List V}
theorem a5B.append (h:a5B sz c1 cl):∀a b:List α,cl (a++b)=cl a++cl b
 | [],b=>by rw[h.nil];rfl
 | x::a,b=>by rw[List.cons_append,h.cons,h.cons,h.append a b,List.append_assoc]
theorem a5B.length (h:a5B sz c1 cl):∀a:List α,(cl a).length=a.length*sz
 | []=>by rw[h.nil];simp
 | x::a=>by rw[h.cons,List.length_append,h.len,h.length a,List.length_cons,Nat.succ_mul,Nat.add_comm]
theorem a5B.drop (h:a5B sz c1 cl):∀(k:Nat) (a:List α),(cl a).drop (k*sz)=cl (a.drop k)
 | 0,a=>zSi
 | k+1,[]=>by simp[h.nil]
 | k+1,x::a=>by
  rw[h.cons,Nat.succ_mul,Nat.add_comm,<-List.drop_drop];rw[List.drop_left' (h.len x),h.drop k a];rfl
theorem a5B.take (h:a5B sz c1 cl):∀(k:Nat) (a:List α),(cl a).take (k*sz)=cl (a.take k)
 | 0,a=>by simp[h.nil]
 | k+1,[]=>by simp[h.nil]
 | k+1,x::a=>by
  rw[h.cons,Nat.succ_mul,Nat.add_comm,List.take_append,List.take_of_length_le (by rw[h.len];omega),h.len,show sz+k*sz-sz=k*sz from zOm,h.take k a,List.take_succ_cons,h.cons]
theorem a5B.at (h:a5B sz c1 cl){l:List α}{i:Nat}{x:α}(hx:l[i]? = some x):(cl l).drop (i*sz)=c1 x++cl (l.drop (i+1)):=by
 rw[h.drop];have hi:i<l.length:=by
  grind
 rw[List.drop_eq_getElem_cons hi,h.cons];grind
end
def tpe (sz:Nat):Nat->Nat|0=>0|_+1=>sz
def clS:List Str->List V:=List.map V.str
theorem encS:a5B 1 (fun s:Str=>[V.str s]) clS:=⟨fun _=>rfl,rfl,fun _ _=>rfl⟩
def clI (k:IntKind):List Int->List V:=List.map (V.int k)
theorem encI (k:IntKind):a5B 1 (fun n:Int=>[V.int k n]) (clI k):=⟨fun _=>rfl,rfl,fun _ _=>rfl⟩
def clB:List Bool->List V:=List.map V.bool
theorem encB:a5B 1 (fun n:Bool=>[V.bool n]) clB:=⟨fun _=>rfl,rfl,fun _ _=>rfl⟩
def clSl {α:Type}(cl:List α->List V):List (List α)->List V:=List.map fun l=>.slice .sealed (List.length l) (cl l)
theorem encSl {α:Type}(cl:List α->List V):a5B 1 (fun l:List α=>[V.slice .sealed (List.length l) (cl l)]) (clSl cl):=⟨fun _=>rfl,rfl,fun _ _=>rfl⟩
def bytesOf (l:List Int):Str:=l.map fun n=>UInt8.ofNat n.toNat
def c5L (s:Str):List Int:=s.map fun b=>((b.toNat:Nat):Int)
section
variable {env:Env} {orc:Orc} {f nr:Nat} {ops:Array Oper} {o:Oper} {rest:List Oper} {fr fr1:Fr} {H H1:Hp} {K:Res->Prop}
theorem os_idx {α:Type}{sz:Nat}{c1:α->List V}{cl:List α->List V}(he:a5B sz c1 cl){l:List α}{x:α}{ow:Own}(hx:idx' l i=some x)(hw:G6 ops o fr=some true)(ho:o.op=.indexAddr t a b)
  (ha:ev fr a=some (.slice ow l.length (cl l))) (hb:ev fr b=some (.int k i)) (h1:O7 t env.T=some y) (h2:y.sh=.slice e) (h3:O7 e env.T=some ye) (h4:ye.size=sz)
  (h:Os env orc ops rest (Y5 o.dst (.cptr (c1 x++cl (l.drop (i.toNat+1)))) fr) H K):Os env orc ops (o::rest) fr H K:=by
 have hp:Q6 o.op=true:=by rw[ho];rfl
 obtain⟨g1,g2⟩:=idx'_inv hx;refine a7c hw hp ?_ h;rw[ho];simp only[a0Y,ha,hb,b2u,h1,h2,h3,h4,g1,gd,he.at g2]
theorem os_idxS {x:Int}(hx:idxS s i=some x)(hw:G6 ops o fr=some true)(ho:o.op=.index t a b)
  (ha:ev fr a=some (.str s)) (hb:ev fr b=some (.int k i)) (h1:O7 t env.T=some y) (h2:y.sh=.string)
  (h:Os env orc ops rest (Y5 o.dst (.int .u8 x) fr) H K):Os env orc ops (o::rest) fr H K:=by
 have hp:Q6 o.op=true:=by rw[ho];rfl
 obtain⟨g1,rfl⟩:=idxS_inv hx;refine a7c hw hp ?_ h;rw[ho];simp only[a0Y,ha,hb,c2v,h1,h2,g1,gd]
theorem os_subS (hx:b9A s i j=some x)(hw:G6 ops o fr=some true)(ho:o.op=.slice t a lo hi none)
  (ha:ev fr a=some (.str s)) (hl:evX fr lo=some l') (hh:evX fr hi=some h') (hi':bnd l' 0=some i) (hj':bnd h' s.length=some j) (h1:O7 t env.T=some y) (h2:y.sh=.string)
  (h:Os env orc ops rest (Y5 o.dst (.str x) fr) H K):Os env orc ops (o::rest) fr H K:=by
 have hp:Q6 o.op=true:=by rw[ho];rfl
 obtain⟨g1,rfl⟩:=subS_inv hx;refine a7c hw hp ?_ h;rw[ho];have hx0:evX fr none=some none:=rfl;simp only[a0Y,ha,hl,hh,hx0,b6S,h1,h2,hi',hj',g1,gd]
theorem os_subL {α:Type}{sz:Nat}{c1:α->List V}{cl:List α->List V}(he:a5B sz c1 cl){l x:List α}{ow:Own}(hx:a9p l i j=some x)(hw:G6 ops o fr=some true)(ho:o.op=.slice t a lo hi none)
  (ha:ev fr a=some (.slice ow l.length (cl l))) (hl:evX fr lo=some l') (hh:evX fr hi=some h') (hi':bnd l' 0=some i) (hj':bnd h' l.length=some j) (h1:O7 t env.T=some y) (h2:y.sh=.slice e) (h3:O7 e env.T=some ye) (h4:ye.size=sz) (hq:(l'.isSome||h'.isSome)=true)
  (h:Os env orc ops rest (Y5 o.dst (.slice .sealed x.length (cl x)) fr) H K):Os env orc ops (o::rest) fr H K:=by
 have hp:Q6 o.op=true:=by rw[ho];rfl
 obtain⟨g1,rfl⟩:=subL_inv hx;subst h4;refine a7c hw hp ?_ h;rw[ho];have hx0:evX fr none=some none:=rfl;have hlen:((l.take j.toNat).drop i.toNat).length=j.toNat-i.toNat:=by
  have:=g1;simp only[inI,Bool.and_eq_true,decide_eq_true_eq]at this;grind
 rw[hlen,<-he.drop,<-he.take];cases l' with
 | none=>cases h' with
  | none=>grind
  | some q=>simp only[a0Y,ha,hl,hh,hx0,b6S,h1,h2,h3,hi',hj',g1,gd]
 | some q=>simp only[a0Y,ha,hl,hh,hx0,b6S,h1,h2,h3,hi',hj',g1,gd]
theorem os_cat {u:Str}{t2:Nat}(hx:cat s u=some x)(hw:G6 ops o fr=some true)(ho:o.op=.binOp .add t a b t2)
  (ha:ev fr a=some (.str s)) (hb:ev fr b=some (.str u))
  (h:Os env orc ops rest (Y5 o.dst (.str x) fr) H K):Os env orc ops (o::rest) fr H K:=by
 have hp:Q6 o.op=true:=by rw[ho];rfl
 obtain⟨g1,rfl⟩:=cat_inv hx;refine a7c hw hp ?_ h;rw[ho];simp only[a0Y,ha,hb,vBin,vStr,g1,gd]
theorem c6d {α:Type}{sz:Nat}{c1:α->List V}{cl:List α->List V}(he:a5B sz c1 cl){l m x:List α}(hx:app bytes l m=some x)
  (hw:G6 ops o fr=some true) (ho:o.op=.call ⟨.builtin .append,args,at_⟩)
  (ha:args.toList=[a,b]) (ht:at_.toList=[t,xt]) (hs:ev fr a=some (.slice (.tag g) l.length (cl l))) (hv:ev fr b=some v)
  (h1:O7 t env.T=some y) (h2:O7 xt env.T=some yx) (h3:y.sh=.slice e) (h4:a94 yx.sh=true) (h5:O7 e env.T=some ye) (h6:ye.size=sz) (h7:ye.bytes=bytes) (h8:Nat.beq sz 0=false)
  (h9:a7W env.T e v H=some (m.length,cl m)) (hm:Nat.beq m.length 0=false) (h10:hget g H=some (.tip (tpe sz l.length) l.length)) (hH:a0x (some (hset g (.tip (tpe sz x.length) x.length) H))=some H1)
  (h:Os env orc ops rest (Y5 o.dst (.slice (.tag g) x.length (cl x)) fr) H1 K):Os env orc ops (o::rest) fr H K:=by
 have hp:Q6 o.op=false:=by rw[ho];rfl
 obtain⟨g1,rfl⟩:=b7u hx;rw[a3G,Option.some.injEq]at hH;subst hH h6 h7;have hw2:tpe ye.size l.length=0∨tpe ye.size l.length=ye.size:=by cases l.length<;>simp[tpe]
 have ht2:tpe ye.size (l++m).length=ye.size:=by
  rw[List.length_append];cases m with
  | nil=>simp at hm
  | cons z m=>rfl
 refine a3t hw hp ?_ h;unfold X6;rw[ho];simp only[ha,ht,hs,hv];rw[c6Q h1 h2 h3 h4 h5 h9 hm h10 hw2 h8 (he.length l).symm g1,ht2,he.append,List.length_append]
theorem c7C {α:Type}{sz:Nat}{c1:α->List V}{cl:List α->List V}(he:a5B sz c1 cl){l m x:List α}(hx:app bytes l m=some x)
  (hw:G6 ops o fr=some true) (ho:o.op=.call ⟨.builtin .append,args,at_⟩)
  (ha:args.toList=[a,b]) (ht:at_.toList=[t,xt]) (hs:ev fr a=some (.slice (.tag g) l.length (cl l))) (hv:ev fr b=some v)
  (h1:O7 t env.T=some y) (h2:O7 xt env.T=some yx) (h3:y.sh=.slice e) (h4:a94 yx.sh=true) (h5:O7 e env.T=some ye) (h6:ye.size=sz) (h7:ye.bytes=bytes) (h8:Nat.beq sz 0=false)
  (h9:a7W env.T e v H=some (m.length,cl m)) (h10:hget g H=some (.tip (tpe sz l.length) l.length)) (hS:a0x (some (hset g (.tip (tpe sz l.length) l.length) H))=some H) (hH:a0x (some (hset g (.tip (tpe sz x.length) x.length) H))=some H1)
  (h:Os env orc ops rest (Y5 o.dst (.slice (.tag g) x.length (cl x)) fr) H1 K):Os env orc ops (o::rest) fr H K:=by
 by_cases hm:m=[]
 ·subst hm;have hp:Q6 o.op=false:=by rw[ho];rfl
  obtain⟨g1,rfl⟩:=b7u hx;rw[a3G,Option.some.injEq]at hH hS;rw[List.append_nil]at hH h;rw[hS]at hH;subst hH;refine a3t hw hp ?_ h;unfold X6;rw[ho];simp only[ha,ht,hs,hv];unfold a6S;simp_all
 refine c6d he hx hw ho ha ht hs hv h1 h2 h3 h4 h5 h6 h7 h8 h9 ?_ h10 hH h;cases m with
 | nil=>grind
 | cons z m=>rfl
theorem c7D {α:Type}{sz:Nat}{c1:α->List V}{cl:List α->List V}(he:a5B sz c1 cl){l m x:List α}{ow:Own}(hx:app bytes l m=some x)
  (hw:G6 ops o fr=some true) (ho:o.op=.call ⟨.builtin .append,args,at_⟩)
  (ha:args.toList=[a,b]) (ht:at_.toList=[t,xt]) (how:ow=.nil∨ow=.full) (hs:ev fr a=some (.slice ow l.length (cl l))) (hv:ev fr b=some v)
  (h1:O7 t env.T=some y) (h2:O7 xt env.T=some yx) (h3:y.sh=.slice e) (h4:a94 yx.sh=true) (h5:O7 e env.T=some ye) (h6:ye.size=sz) (h7:ye.bytes=bytes) (h8:Nat.beq sz 0=false)
  (h9:a7W env.T e v H=some (m.length,cl m)) (hm:Nat.beq m.length 0=false) (h10:hget (newName o) H=none) (hH:a0x (some (hset (newName o) (.tip (tpe sz x.length) x.length) H))=some H1)
  (h:Os env orc ops rest (Y5 o.dst (.slice (.tag (newName o)) x.length (cl x)) fr) H1 K):Os env orc ops (o::rest) fr H K:=by
 have hp:Q6 o.op=false:=by rw[ho];rfl
 obtain⟨g1,rfl⟩:=b7u hx;rw[a3G,Option.some.injEq]at hH;subst hH h6 h7;have ht2:tpe ye.size (l++m).length=ye.size:=by
  rw[List.length_append];cases m with
  | nil=>simp at hm
  | cons z m=>rfl
 refine a3t hw hp ?_ h;unfold X6;rw[ho];simp only[ha,ht,hs,hv];unfold a6S;have h11 :=h8;rw[List.length_append]at ht2;rcases how with rfl|rfl <;>
  simp only[h1,h2,h3,h4,h5,h9,hm,h10,h11,a2d (he.length l).symm,a9s g1,Bool.not_false,Bool.and_self,gd,ht2,he.append,List.length_append]
theorem os_appF {α:Type}{sz:Nat}{c1:α->List V}{cl:List α->List V}(he:a5B sz c1 cl){l m x:List α}{ow:Own}(hx:app bytes l m=some x)
  (hw:G6 ops o fr=some true) (ho:o.op=.call ⟨.builtin .append,args,at_⟩)
  (ha:args.toList=[a,b]) (ht:at_.toList=[t,xt]) (how:ow=.nil/\l=[]∨ow=.full/\leN 1 l.length=true) (hs:ev fr a=some (.slice ow l.length (cl l))) (hv:ev fr b=some v)
  (h1:O7 t env.T=some y) (h2:O7 xt env.T=some yx) (h3:y.sh=.slice e) (h4:a94 yx.sh=true) (h5:O7 e env.T=some ye) (h6:ye.size=sz) (h7:ye.bytes=bytes) (h8:Nat.beq sz 0=false)
  (h9:a7W env.T e v H=some (m.length,cl m)) (h10:hget (newName o) H=none) (hH:a0x (some (hset (newName o) (.tip (tpe sz x.length) x.length) H))=some H1)
  (h:Os env orc ops rest (Y5 o.dst (.slice (.tag (newName o)) x.length (cl x)) fr) H1 K):Os env orc ops (o::rest) fr H K:=by
 by_cases hm:m=[]
 ·subst hm;have hp:Q6 o.op=false:=by rw[ho];rfl
  obtain⟨g1,rfl⟩:=b7u hx;rw[a3G,Option.some.injEq]at hH;rw[List.append_nil]at hH h;subst hH h6;refine a3t hw hp ?_ h;unfold X6;rw[ho];simp only[ha,ht,hs,hv];unfold a6S;have h0 :=he.nil;rcases how with⟨rfl,rfl⟩ |⟨rfl,h11⟩
  ·simp only[h1,h2,h3,h4,h5,h9,List.length_nil,Nat.beq,h10,h8,Bool.not_false,gd,h0,tpe]
  have h12:=a7j h11;have h13:tpe ye.size l.length=ye.size:=by
   cases hl:l.length with
   | zero=>omega
   | succ q=>rfl
  simp only[h1,h2,h3,h4,h5,h9,List.length_nil,Nat.beq,h10,h8,h11,Bool.not_false,Bool.and_self,gd,h13]
 have hw2:ow=.nil∨ow=.full:=by grind
 refine c7D he hx hw ho ha ht hw2 hs hv h1 h2 h3 h4 h5 h6 h7 h8 h9 ?_ h10 hH h;cases m with
 | nil=>grind
 | cons z m=>rfl
theorem os_panic {x:Operand}(hw:G6 ops o fr=some true)(ho:o.op=.panic x)(hx:ev fr x=some (.iface t v))(h:K (.panic (.iface t v),fr,H)):Os env orc ops (o::rest) fr H K:=by
 have hp:Q6 o.op=false:=by rw[ho];rfl
 refine⟨_,?_,h⟩;simp only[M7,hw,U0,hp];unfold X6;grind
def segK (env:Env)(f nr id:Nat)(F:Fr)(G:Hp)(K:Res->Prop):Res->Prop |(.normal,fr,H)=>normal env f nr (id+100000) fr H=some (F,G)|r=>K r
theorem ev_seg {a b:Code}(F:Fr)(G:Hp)(hc:env.cut f (a5C b)=true)(hA:Ev env orc f nr a fr H (segK env f nr (a5C b) F G K))(hB:Ev env orc f nr b F G K):Ev env orc f nr (.seq a b) fr H K:=by
 refine c1v hc ?_;obtain⟨⟨e,fr1,H1⟩,h1,h2⟩:=hA;refine⟨_,h1,?_⟩;cases e with
 | normal=>exact⟨_,_,h2,hB⟩
 | _=>exact h2
def segL {α ρ:Type}(env:Env)(f nr id:Nat)(y:Lr α ρ)(F:α->Fr)(G:α->Hp)(KR:ρ->Res->Prop):Res->Prop |(.normal,fr,H)=>∃x,y=.brk x/\normal env f nr (id+100000) fr H=some (F x,G x)|r=>∃z,y=.out z/\KR z r
theorem c7d {α ρ:Type}{a b:Code}{KR:ρ->Res->Prop}(y:Lr α ρ)(F:α->Fr)(G:α->Hp)(hc:env.cut f (a5C b)=true)(hA:Ev env orc f nr a fr H (segL env f nr (a5C b) y F G KR))
  (hB:∀x,y=.brk x->Ev env orc f nr b (F x) (G x) K) (hR:∀z r,y=.out z->KR z r->r.1 ≠ .normal->K r):Ev env orc f nr (.seq a b) fr H K:=by
 refine c1v hc ?_;obtain⟨⟨e,fr1,H1⟩,h1,h2⟩:=hA;refine⟨_,h1,?_⟩;cases e with
 | normal=>obtain⟨x,h3,h4⟩:=h2;exact⟨_,_,h4,hB x h3⟩
 | ret=>obtain⟨z,h3,h4⟩:=h2;exact hR z _ h3 h4 zGr
 | exit i=>obtain⟨z,h3,h4⟩:=h2;exact hR z _ h3 h4 zGr
 | panic v=>obtain⟨z,h3,h4⟩:=h2;exact hR z _ h3 h4 zGr
def OsP (env:Env)(orc:Orc)(L sl:List Nat)(ops:Array Oper)(l:List Oper)(fr:Fr)(H:Hp)(K:Res->Prop):Prop:=∃r,M9 env orc L sl ops l fr H=some r/\K r
def onceK (env:Env)(orc:Orc)(L sl:List Nat)(ops:Array Oper)(l:List Oper)(K:Res->Prop):Res->Prop |(.normal,fr,H)=>OsP env orc L sl ops l fr H K|r=>K r
theorem osP_nil (h:K (.normal,fr,H)):OsP env orc L sl ops [] fr H K:=⟨_,rfl,h⟩
theorem c3O (hw:G6 ops o fr=some false)(h:OsP env orc L sl ops rest (Y5 o.dst (.tuple []) fr) H K):OsP env orc L sl ops (o::rest) fr H K:=by
 obtain⟨r,h1,h2⟩:=h;exact⟨r,by simp only[M9,hw];omega,h2⟩
theorem osP_cons (hp:a6m env L sl fr H o=true)(h:Os env orc ops [o] fr H (onceK env orc L sl ops rest K)):OsP env orc L sl ops (o::rest) fr H K:=by
 obtain⟨r,h1,h2⟩:=h;simp only[M7]at h1;cases hw:G6 ops o fr with
 | none=>grind
 | some b =>
  rw[hw]at h1;cases b with
  | false =>
   simp at h1;subst h1;exact c3O hw h2
  | true =>
   cases hs:U0 env orc fr H o with
   | none=>grind
   | some x =>
    rw[hs]at h1;cases x with
    | val v H1 =>
     simp at h1;subst h1;obtain⟨r,h3,h4⟩:=h2;exact⟨r,by simp only[M9,hw,hp,hs];omega,h4⟩
    | pan v H1 =>
     simp at h1;subst h1;exact⟨_,by simp only[M9,hw,hp,hs],h2⟩
def sepK (nr:Nat)(ops:Array Oper)(L sl:List Nat)(K:Res->Prop):Res->Prop |(.normal,fr,H)=>a9M sl fr=some L/\K (.normal,fr,H) |(.panic v,fr,H)=>a9M sl fr=some L/\c1b (a7H ops.toList) H=true /\ ∃v' H',finish nr v H=some (v',H')/\K (.panic v',[],H')|_=>False
theorem c5C {id:Nat}{d:Bool}{S:List Nat}(L:List Nat)(hs:b4C env f id d=some (S,sl))(h:OsP env orc L sl ops (b03 ops S) fr H (sepK nr ops L sl K)):Ev env orc f nr (.region id ops d) fr H K:=by
 obtain⟨⟨e,fr1,H1⟩,h1,h2⟩:=h;have h3:=a9e h1;unfold Ev;simp only[G8,hs];cases e with
 | normal =>
  obtain⟨g1,g2⟩:=h2;exact⟨_,by simp only[a7D,h3,g1,h1],g2⟩
 | panic v =>
  obtain⟨g1,g2,v',H',g3,g4⟩:=h2;exact⟨_,by simp only[a7D,h3,g1,h1,g2,g3],g4⟩
 | ret=>exact h2.elim
 | exit i=>exact h2.elim
theorem os_loadA {cs r:List V}(hw:G6 ops o fr=some true)(ho:o.op=.load t a)(ha:ev fr a=some (.cptr cs))(hs:cs=c++r)(h1:O7 t env.T=some y)(h2:a2l y.sh=true)(h3:c.length=y.size)
  (h:Os env orc ops rest (Y5 o.dst (.agg c) fr) H K):Os env orc ops (o::rest) fr H K:=by
 refine a0P hw ho ha ?_ h;subst hs;have:leN c.length (c++r).length=true:=a9s zGr;simp only[a6s,h1,h2,<-h3,this,gd,List.take_left]
theorem c3P {f:Operand}{a:List V}(hw:G6 ops o fr=some true)(ho:o.op=.call ⟨.value f,args,at_⟩)(hf:ev fr f=some (.func (.func g) a c))
  (hl:evL fr args.toList=some l) (hc:a4C env orc (newName o) g (a++l++c) H=some (.val v H1))
  (h:Os env orc ops rest (Y5 o.dst v fr) H1 K):Os env orc ops (o::rest) fr H K:=by
 have hp:Q6 o.op=false:=by rw[ho];rfl
 refine a3t hw hp   ?_ h;unfold X6;grind
theorem c8w {f:Operand}{a:List V}(hw:G6 ops o fr=some true)(ho:o.op=.call ⟨.value f,args,at_⟩)(hf:ev fr f=some (.func (.func g) a c))
  (hl:evL fr args.toList=some l) (hc:a4C env orc (newName o) g (a++l++c) H=some (.pan v H1))
  (h:K (.panic v,fr,H1)):Os env orc ops (o::rest) fr H K:=by
 have hp:Q6 o.op=false:=by rw[ho];rfl
 refine⟨_,?_,h⟩;simp only[M7,hw,U0,hp];unfold X6;grind
theorem os_pickT {c:Operand}{x:Bool}(hw:G6 ops o fr=some true)(ho:o.op=.pick c a b)(hc:ev fr c=some (.bool x))(hx:x=true)(hv:a5E (ev fr a)=some v)
  (h:Os env orc ops rest (Y5 o.dst v fr) H K):Os env orc ops (o::rest) fr H K:=by
 have hp:Q6 o.op=true:=by rw[ho];rfl
 rw[b6l]at hv;refine a7c hw hp ?_ h;rw[ho];simp only[a0Y,hc,hx,hv]
theorem os_pickF {c:Operand}{x:Bool}(hw:G6 ops o fr=some true)(ho:o.op=.pick c a b)(hc:ev fr c=some (.bool x))(hx:x=false)(hv:a5E (ev fr b)=some v)
  (h:Os env orc ops rest (Y5 o.dst v fr) H K):Os env orc ops (o::rest) fr H K:=by
 have hp:Q6 o.op=true:=by rw[ho];rfl
 rw[b6l]at hv;refine a7c hw hp ?_ h;rw[ho];simp only[a0Y,hc,hx,hv]
theorem b57:∀l:List Int,a7p (clI .u8 l)=some (l.map fun n=>UInt8.ofNat n.toNat)
 | []=>rfl
 | n::r=>by
  have:=b57 r;simp only[clI,List.map_cons]at this ⊢;simp only[a7p,this]
theorem os_toStr {l:List Int}{ow:Own}(hw:G6 ops o fr=some true)(ho:o.op=.convert t d a)(ha:ev fr a=some (.slice ow l.length (clI .u8 l)))
  (h1:O7 t env.T=some y) (h2:O7 d env.T=some z) (h3:z.sh=.string) (h4:y.sh=.slice e) (h5:O7 e env.T=some ye) (h6:ye.sh=.int .u8)
  (h:Os env orc ops rest (Y5 o.dst (.str (bytesOf l)) fr) H K):Os env orc ops (o::rest) fr H K:=by
 have hp:Q6 o.op=true:=by rw[ho];rfl
 refine a7c hw hp ?_ h;rw[ho];have h7:eqN l.length (l.map fun n=>UInt8.ofNat n.toNat).length=true:=a2d zGr;simp only[a0Y,ha,b58,h1,h2,h3,h4,h5,h6,b57,h7,gd,bytesOf]
theorem os_ofStr (hw:G6 ops o fr=some true)(ho:o.op=.convert t d a)(ha:ev fr a=some (.str s))
  (h1:O7 t env.T=some y) (h2:O7 d env.T=some z) (h3:y.sh=.string) (h4:z.sh=.slice e) (h5:O7 e env.T=some ye) (h6:ye.sh=.int .u8)
  (h:Os env orc ops rest (Y5 o.dst (.slice .sealed (c5L s).length (clI .u8 (c5L s))) fr) H K):Os env orc ops (o::rest) fr H K:=by
 have hp:Q6 o.op=true:=by rw[ho];rfl
 refine a7c hw hp ?_ h;rw[ho];simp only[a0Y,ha,b58,h1,h2,h3,h4,h5,h6,a1n,c5L,clI,List.length_map,List.map_map];rfl
@[reducible] def w64 (x:Int):Int:=IntKind.wrap .i64 x
end
end Go.Vm
namespace Go.Vm
@[reducible] def V.i (x:Int):V:=.int .i64 x
@[reducible] def V.sl {α:Type} (f:List α->List V) (x:List α):V:=.slice .sealed (List.length x) (f x)
@[reducible] def V.sf {α:Type} (f:List α->List V) (x:List α):V:=.slice .full (List.length x) (f x)
@[reducible] def V.st {α:Type} (g:Nat) (f:List α->List V) (x:List α):V:=.slice (.tag g) (List.length x) (f x)
@[reducible] def c0 (a:Int) (b:List UInt8) (c d:Int) (e:List UInt8) (f:Int) (g h i:V) (j:Int):List V:=[.int .i64 a,.str b,.int .i64 c,.int .i64 d,.str e,.int .i64 f,g,h,i,.int .i64 j]
@[reducible] def hR {α:Type} (f:List α->List V) (l:List α) (a b c:Int):Hp:=[(0,.row [.slice .sealed (List.length l) (f l),.int .i64 a,.int .i64 b,.int .i64 c])]
@[reducible] def hP {α:Type} (f:List α->List V) (l:List α) (a b:Int):Hp:=[(0,.row [.slice .sealed (List.length l) (f l),.int .i64 a,.int .i64 b])]
section
variable {env:Env} {orc:Orc} {f nr:Nat} {ops:Array Oper} {o:Oper} {rest rest':List Oper} {fr fr1 fr':Fr} {H H1 H':Hp} {r:Option Res} {v:V} {K:Res->Prop}
def auto (env:Env)(orc:Orc)(ops:Array Oper):Nat->List Oper->Fr->Hp->Option (List Oper×Fr×Hp)
 | 0,rest,fr,H=>some (rest,fr,H)
 | _+1,[],fr,H=>none
 | k+1,o::rest,fr,H=>match G6 ops o fr with
  | none=>none
  | some false=>auto env orc ops k rest (Y5 o.dst (.tuple []) fr) H
  | some true=>match Q6 o.op with
   | true=>match a5E (a0Y env.T fr o.op)with
    | some v=>auto env orc ops k rest (Y5 o.dst v fr) H
    | none=>none
   | false=>match b8m (X6 env orc fr H o)with
    | some (.val v H1)=>auto env orc ops k rest (Y5 o.dst v fr) H1
    | _=>none
theorem oA:∀(k:Nat) {rest:List Oper} {fr:Fr} {H:Hp} (h:auto env orc ops k rest fr H=some (rest',fr',H')) (h2:Os env orc ops rest' fr' H' K),Os env orc ops rest fr H K
 | 0,rest,fr,H,h,h2=>by cases h;grind
 | k+1,[],fr,H,h,h2=>by cases h
 | k+1,o::rest,fr,H,h,h2=>by
  simp only[auto]at h;split at h
  ·cases h
  ·rename_i hw;exact c7G hw (oA k h h2)
  rename_i hw;split at h
  ·rename_i hp;split at h
   ·rename_i v hv;exact o7 hw hp hv (oA k h h2)
   grind
  rename_i hp;split at h
  ·rename_i v H1 hv;exact c6e hw hp hv (oA k h h2)
  grind
theorem oV {g:Nat}{args:Array Operand}{at_:Array TypeId}{l ac:List V}{ns:List Nat}{H3 H4 Hc:Hp}{v v4:V}(hc:orc (.call g ac) Hc=some (.ret v H3))(h:Os env orc ops rest (Y5 o.dst v4 fr) H4 K)
  (hw:G6 ops o fr=some true:=by exact rfl) (ho:o.op=.call ⟨.value (.func g),args,at_⟩:=by exact rfl)
  (hl:evL fr args.toList=some l:=by exact rfl) (hq:(env.quiet g||env.look g)=false:=by exact rfl) (hp:a9A env g l H=some (ns,ac,Hc):=by exact rfl) (h7:a7J (a2K (L8 ns (newName o)) dep v)=some v4:=by exact rfl)
  (h8:a0x (a3r (L8 ns (newName o)) H3 H)=some H4:=by exact rfl) (h9:a6x H H3 (newName o) ns.length=true:=by exact rfl):Os env orc ops (o::rest) fr H K :=
 b30 hw ho hl (a7I hq hp hc h7 h8 h9) h
theorem oB (k:Nat){rest:List Oper}{fr:Fr}{H:Hp}(h:auto env orc ops k rest fr H=some ([],fr',H'))(h2:K (.normal,fr',H')):Os env orc ops rest fr H K:=oA k h (I4 h2)
theorem oD (h:Os env orc ops rest (Y5 o.dst v fr) H K)(hw:G6 ops o fr=some true:=by exact rfl)(hp:Q6 o.op=true:=by exact rfl)(hv:a7J (a0Y env.T fr o.op)=some v:=by exact rfl):Os env orc ops (o::rest) fr H K:=c3Q hw hp hv h
theorem eSG {id:Nat}{d:Bool}{b:Code}(h:Os env orc ops ops.toList fr H (regK d (thenK env orc f nr b K)))(hc:env.cut f (a5C b)=false:=by rfl)(hb:(d&&env.loose f)=false:=by rfl)(hs:b4C env f id d=none:=by rfl):Ev env orc f nr (.seq (.region id ops d) b) fr H K:=E8 (A7 h hb hs) hc
end
variable {et kt r t:Nat} {ki kv x:Operand} {y yk:Ty}
section
variable {κ β:Type}
def b78 (ek:κ->V)(eb:β->V):List (κ×β)->List (V×V) | []=>[] |(k,b)::r=>(ek k,eb b)::b78 ek eb r
def b6u (q:κ->κ->Bool)(i:κ):List (κ×β)->Option β
 | []=>none
 |(k,b)::r=>match q i k with
  | true=>some b
  | false=>b6u q i r
def a9t (q:κ->κ->Bool)(i:κ)(b:β):List (κ×β)->List (κ×β)
 | []=>[(i,b)]
 |(k,x)::r=>match q i k with
  | true=>(i,b)::r
  | false=>(k,x)::a9t q i b r
theorem c0f {ek:κ->V}{eb:β->V}{q:κ->κ->Bool}(hq:∀a b,b3w (ek a) (ek b)=some (q a b))(i:κ):∀m:List (κ×β),c0e (ek i) (b78 ek eb m)=some ((b6u q i m).map eb)
 | []=>rfl
 |(k,b)::r=>by
  simp only[b78,c0e,b6u,hq];cases q i k with
  | true=>rfl
  | false=>exact c0f hq i r
theorem b9d {ek:κ->V}{eb:β->V}{q:κ->κ->Bool}(hq:∀a b,b3w (ek a) (ek b)=some (q a b))(i:κ)(x:β):∀m:List (κ×β),putM (ek i) (eb x) (b78 ek eb m)=some (b78 ek eb (a9t q i x m))
 | []=>rfl
 |(k,b)::r=>by
  simp only[b78,putM,a9t,hq];cases q i k with
  | true=>rfl
  | false =>
   simp only[b9d hq i x r];rfl
theorem b1D (k:IntKind)(a b:Int):b3w (.int k a) (.int k b)=some (eqB a b):=by simp[b3w]
end
section
variable {env:Env} {orc:Orc} {ops:Array Oper} {rest:List Oper} {fr:Fr} {H H1:Hp} {K:Res->Prop} {o:Oper}
theorem os_mapU {κ β:Type}{q:κ->κ->Bool}{ek:κ->V}{eb:β->V}(hq:∀a b,b3w (ek a) (ek b)=some (q a b)){m:List (κ×β)}{i:κ}{b:β}
  (hw:G6 ops o fr=some true) (ho:o.op=.mapUpdate t x ki kv) (hx:ev fr x=some (.map r)) (hi:ev fr ki=some (ek i)) (hv:ev fr kv=some (eb b)) (h1:O7 t env.T=some y) (h2:y.sh=.map kt et) (h3:O7 kt env.T=some yk)
  (h4:b4x yk.sh (ek i)=true) (h5:b3q (eb b)=some (eb b)) (h6:hget r H=some (.mp (b78 ek eb m))) (hH:a0x (some (hset r (.mp (b78 ek eb (a9t q i b m))) H))=some H1)
  (h:Os env orc ops rest (Y5 o.dst .undef fr) H1 K):Os env orc ops (o::rest) fr H K:=by
 have hp:Q6 o.op=false:=by rw[ho];rfl
 rw[a3G,Option.some.injEq]at hH;subst hH;refine a3t hw hp  ?_ h;unfold X6;rw[ho];simp only[hx,hi,hv,a8W,h1,h2,h3,h4,h5,h6,b9d hq]
theorem c7E {κ β:Type}{q:κ->κ->Bool}{ek:κ->V}{eb:β->V}(hq:∀a b,b3w (ek a) (ek b)=some (q a b)){m:List (κ×β)}{i:κ}{b:β}
  (hw:G6 ops o fr=some true) (ho:o.op=.insert t x ki kv) (hx:ev fr x=some (.map r)) (hi:ev fr ki=some (ek i)) (hv:ev fr kv=some (eb b)) (h1:O7 t env.T=some y) (h2:y.sh=.map kt et) (h3:O7 kt env.T=some yk)
  (h4:b4x yk.sh (ek i)=true) (h5:b3q (eb b)=some (eb b)) (h6:hget r H=some (.mp (b78 ek eb m))) (hH:a0x (some (hset r (.mp (b78 ek eb (a9t q i b m))) H))=some H1)
  (h:Os env orc ops rest (Y5 o.dst .undef fr) H1 K):Os env orc ops (o::rest) fr H K:=by
 have hp:Q6 o.op=false:=by rw[ho];rfl
 rw[a3G,Option.some.injEq]at hH;subst hH;refine a3t hw hp  ?_ h;unfold X6;rw[ho];simp only[hx,hi,hv,a8W,h1,h2,h3,h4,h5,h6,b9d hq]
theorem c7F {κ β:Type}{q:κ->κ->Bool}{ek:κ->V}{eb:β->V}(hq:∀a b,b3w (ek a) (ek b)=some (q a b)){m:List (κ×β)}{i:κ}{d:β}{ye:Ty}
  (hw:G6 ops o fr=some true) (ho:o.op=.lookup t x ki false) (hx:ev fr x=some (.map r)) (hi:ev fr ki=some (ek i)) (h1:O7 t env.T=some y) (h2:y.sh=.map kt et) (h3:O7 kt env.T=some yk) (h3':O7 et env.T=some ye)
  (h4:b4x yk.sh (ek i)=true) (h5:zeroV ye=eb d) (h6:hget r H=some (.mp (b78 ek eb m)))
  (h:Os env orc ops rest (Y5 o.dst (eb ((b6u q i m).getD d)) fr) H K):Os env orc ops (o::rest) fr H K:=by
 have hp:Q6 o.op=false:=by rw[ho];rfl
 refine a3t hw hp   ?_ h;unfold X6;rw[ho];simp only[hx,hi,b7R,h1,h2,h3,h3',h4,h6,c0f hq];cases b6u q i m with
 | none=>grind
 | some b=>simp
end
variable {ρ σ1 σ2 σ3 σ4 σ5 σ6:Type} {d:Bool} {body:Code} {H3 H4:Hp} {i:Int} {kk:IntKind} {L sl:List Nat} {cs:List V} {n:Nat} {hi lo:Option Operand} {h' l':Option V} {w2:Own} {s:Str} {v4:V}
class OkF (env:Env){α:Type}(p:Option α)(g:outParam Nat)(l:outParam (List V))(H:outParam Hp)(o:outParam (α->Out)):Prop where
 ok:∀{r},p=some r->E env (.call g l) H=some (o r)
class AllC (α:Type)(Q:outParam ((α->Prop)->Prop)):Prop where
 all:∀{P},Q P -> ∀x,P x
instance {α β:Type}:AllC (α×β) (fun P=>∀a b,P (a,b)):=⟨fun h x=>h x.1 x.2⟩
instance {α β:Type}:AllC (Rs α β) (fun P=>(∀a,P (.ok a)) /\ ∀b,P (.pan b)):=⟨fun h x=>by cases x with|ok a=>exact h.1 a|pan b=>exact h.2 b⟩
instance:AllC Empty (fun _=>True):=⟨fun _ x=>x.elim⟩
class b5a {α:Type}(cl:List α->List V)(sz:outParam Nat)(c1:outParam (α->List V)):Prop where
 e:a5B sz c1 cl
instance:b5a clS 1 (fun s:Str=>[V.str s]):=⟨encS⟩
instance {k:IntKind}:b5a (clI k) 1 (fun n:Int=>[V.int k n]):=⟨encI k⟩
instance:b5a clB 1 (fun n:Bool=>[V.bool n]):=⟨encB⟩
instance {α:Type}{cl:List α->List V}:b5a (clSl cl) 1 (fun l:List α=>[V.slice .sealed (List.length l) (cl l)]):=⟨encSl cl⟩
class b4G (α:Type)(cl:outParam (List α->List V))(sz:outParam Nat)(c1:outParam (α->List V)):Prop where
 e:a5B sz c1 cl
instance:b4G Str clS 1 (fun s:Str=>[V.str s]):=⟨encS⟩
instance:b4G Int (clI .i64) 1 (fun n:Int=>[V.int .i64 n]):=⟨encI _⟩
instance:b4G Bool clB 1 (fun n:Bool=>[V.bool n]):=⟨encB⟩
instance {α:Type}{cl:List α->List V}{sz:Nat}{c1:α->List V} [b4G α cl sz c1]:b4G (List α) (clSl cl) 1 (fun l:List α=>[V.slice .sealed (List.length l) (cl l)]):=⟨encSl cl⟩
@[reducible] def lk (t:Nat) (fr:Fr):V:=Go.Vm.look t fr
def cH (H:Hp)(k j:Nat):V:=match hget k H with
 | some (.row cs)=>(cs[j]?).getD .undef
 | _=>.undef
def oH (H:Hp)(k:Nat):Obj:=(hget k H).getD .gone
def ow (o:Own):V->V | .slice _ n cs=>.slice o n cs|v=>v
def agC (v:V)(j:Nat):V:=match v with
 | .agg cs=>(cs[j]?).getD .undef
 | _=>.undef
def lnV:V->Nat | .slice _ n _=>n|_=>0
def FE (j:Fr×Hp)(G:Fr->Hp->Prop):Prop:=∃fr H,fF j.1 some=some fr/\fH j.2 some=some H/\G fr H
theorem FE_ok {j:Fr×Hp}{G:Fr->Hp->Prop}(h:FE j G):G j.1 j.2:=by
 obtain⟨fr,H,h1,h2,h3⟩:=h;rw[fF_eq]at h1;rw[b2w]at h2;cases h1;cases h2;exact h3
def b5W (fr:Fr)(o:Oper):Bool:=match o.guard with
 | some _=>false
 | none=>match o.op with
  | .indexAddr _ a _=>match ev fr a with
   | some (.slice ..)=>false
   | _=>true
  | .index ..=>false
  | .slice _ a lo hi _=>match ev fr a,lo,hi with
   | some (.str _),_,_=>false
   | _,none,none=>true
   | _,_,_=>false
  | .binOp op _ a _ _=>match op with
   | .add=>match ev fr a with
    | some (.str _)=>false
    | _=>true
   | .quo | .rem=>false
   | _=>true
  | .load _ a=>match ev fr a with
   | some (.cptr _)=>false
   | _=>true
  | .convert _ _ a=>match ev fr a with
   | some (.int ..)=>true
   | _=>false
  | .call {callee:=.builtin .len,.. } | .call {callee:=.builtin .min,.. } | .call {callee:=.builtin .max,.. }=>true
  | .call _ | .mapUpdate .. | .lookup .. | .insert .. | .makeSlice .. | .panic _ | .pick ..=>false
  | _=>true
section
variable {β:Type}
def c2T (env:Env)(orc:Orc):List Oper->Fr->Hp ->(List Oper->Fr->Hp->Option β)->Option β
 | [],fr,H,k=>k [] fr H
 | o::rest,fr,H,k=>match b5W fr o with
  | false=>k (o::rest) fr H
  | true=>match Q6 o.op with
   | true=>match a0Y env.T fr o.op with
    | some v=>fA v fun v=>c2T env orc rest (Y5 o.dst v fr) H k
    | none=>none
   | false=>match X6 env orc fr H o with
    | some (.val v H1)=>fV v fun v=>fH H1 fun H1=>c2T env orc rest (Y5 o.dst v fr) H1 k
    | _=>none
end
section
variable {env:Env} {orc:Orc} {f nr:Nat} {ops:Array Oper} {o:Oper} {rest rest':List Oper} {fr fr1 fr':Fr} {H H1 H':Hp} {K:Res->Prop}
theorem b4F (h:b5W fr o=true):G6 ops o fr=some true:=by
 unfold b5W at h;split at h
 ·cases h
 rename_i hg;simp only[G6,hg]
theorem b72:∀{rest:List Oper} {fr:Fr} {H:Hp} (_:c2T env orc rest fr H (fun l fr H=>some (l,fr,H))=some (rest',fr',H')) (_:Os env orc ops rest' fr' H' K),Os env orc ops rest fr H K
 | [],fr,H,h,h2=>by cases h;exact h2
 | o::rest,fr,H,h,h2=>by
  unfold c2T at h;split at h
  ·cases h;exact h2
  rename_i hs;split at h
  ·rename_i hp;split at h
   ·rename_i v hv;rw[b8g]at h;exact a7c (b4F hs) hp hv (b72 h h2)
   cases h
  rename_i hp;split at h
  ·rename_i v H1 hv;rw[fV_eq,b2w]at h;exact a3t (b4F hs) hp hv (b72 h h2)
  cases h
theorem oR (hs:b5W fr o=true)(h:c2T env orc (o::rest) fr H (fun l fr H=>some (l,fr,H))=some (rest',fr',H'))(h2:Os env orc ops rest' fr' H' K):Os env orc ops (o::rest) fr H K:=b72 h h2
def CallR (env:Env)(orc:Orc)(ops:Array Oper)(o:Oper)(rest:List Oper)(fr:Fr)(H:Hp)(ns:List Nat)(K:Res->Prop):Out->Prop | .ret v H3=>∃v4 H4,a7J (a2K (L8 ns (newName o)) dep v)=some v4/\a0x (a3r (L8 ns (newName o)) H3 H)=some H4/\a6x H H3 (newName o) ns.length=true/\Os env orc ops rest (Y5 o.dst v4 fr) H4 K | .pan v H3=>∃v4 H4,a7J (a2K (L8 ns (newName o)) dep v)=some v4/\a0x (a3r (L8 ns (newName o)) H3 H)=some H4/\a6x H H3 (newName o) ns.length=true/\K (.panic v4,fr,H4) | .res _=>False
def c5d (env:Env)(orc:Orc)(ops:Array Oper)(o:Oper)(rest:List Oper)(fr:Fr)(H:Hp)(K:Res->Prop):Out->Prop | .ret v H3=>∃v2,H3=[]/\a2K a7a dep v=some v2/\Os env orc ops rest (Y5 o.dst v2 fr) H K|_=>False
section
variable {α γ:Type} {p:Option α} {k:α->Option γ} {y:γ} {g:Nat} {out:α->Out} {args:Array Operand} {at_:Array TypeId} {fo:Operand} {l a c ac l2:List V} {ns:List Nat} {Hc:Hp}
theorem bindP_b {β δ:Type}{q:Option (Rs α β)}{k:α->Option δ}{e:β->Option δ}{y:δ}(h:D6 q k e=some y):q.bind (fun x=>match x with | .ok a=>k a | .pan b=>e b)=some y:=by
 cases q with
 | none=>exact h
 | some x=>cases x<;>exact h
theorem k_call (ho:o.op=.call ⟨.value fo,args,at_⟩)(h:p.bind k=some y) [i:OkF env p g ac Hc out] (hw:G6 ops o fr=some true)(hf:ev fr fo=some (.func (.func g) a c))(hl:evL fr args.toList=some l)
  (hq:(env.quiet g||env.look g)=false) (hp:a9A env g (a++l++c) H=some (ns,ac,Hc)) (hk:∀x,k x=some y->CallR env (E env) ops o rest fr H ns K (out x)):Os env (E env) ops (o::rest) fr H K:=by
 obtain⟨x,h1,h2⟩:=a6u h;have h3:=hk x h2;have h4:=i.ok h1;revert h3 h4;cases out x with
 | ret v H3 =>
  rintro⟨v4,H4,e1,e2,e3,e4⟩ h4;exact c3P hw ho hf hl (a7I hq hp h4 e1 e2 e3) e4
 | pan v H3 =>
  rintro⟨v4,H4,e1,e2,e3,e4⟩ h4;exact c8w hw ho hf hl (c2X hq hp h4 e1 e2 e3) e4
 | res r=>exact fun h=>h.elim
def LookR (env:Env)(orc:Orc)(ops:Array Oper)(o:Oper)(rest:List Oper)(fr:Fr)(H:Hp)(ns:List Nat)(K:Res->Prop):Out->Prop | .ret v H3=>∃v4,a7J (a2K (L8 ns (newName o)) dep v)=some v4/\a0x (a3r (L8 ns (newName o)) H3 H)=some H/\a6x H H3 (newName o) ns.length=true/\Os env orc ops rest (Y5 o.dst v4 fr) H K|_=>False
theorem k_look (ho:o.op=.call ⟨.value fo,args,at_⟩)(h:p.bind k=some y) [i:OkF env p g ac Hc out] (hw:G6 ops o fr=some true)(hf:ev fr fo=some (.func (.func g) a c))(hl:evL fr args.toList=some l)
  (hq:env.quiet g=false) (hlk:env.look g=true) (hp:a9A env g (a++l++c) H=some (ns,ac,Hc)) (hk:∀x,k x=some y->LookR env (E env) ops o rest fr H ns K (out x)):Os env (E env) ops (o::rest) fr H K:=by
 obtain⟨x,h1,h2⟩:=a6u h;have h3:=hk x h2;have h4:=i.ok h1;revert h3 h4;cases out x with
 | ret v H3 =>
  rintro⟨v4,e1,e2,e3,e4⟩ h4;exact c3P hw ho hf hl (c1g hq hlk hp h4 e1 e2 e3) e4
 | pan v H3=>exact fun h=>h.elim
 | res r=>exact fun h=>h.elim
theorem k_quiet (ho:o.op=.call ⟨.value fo,args,at_⟩)(h:p.bind k=some y) [i:OkF env p g l2 [] out] (hw:G6 ops o fr=some true)(hf:ev fr fo=some (.func (.func g) [] []))(hq:env.quiet g=true)(hl:evL fr args.toList=some l)
  (hr:a2r (a2K a7a dep) (l.map b1E)=some l2) (hk:∀x,k x=some y->c5d env (E env) ops o rest fr H K (out x)):Os env (E env) ops (o::rest) fr H K:=by
 obtain⟨x,h1,h2⟩:=a6u h;have h3:=hk x h2;have h4:=i.ok h1;revert h3 h4;cases out x with
 | ret v H3 =>
  rintro⟨v2,rfl,e1,e2⟩ h4;exact c0B hw ho hf hq hl hr h4 e1 e2
 | pan v H3=>exact fun h=>h.elim
 | res r=>exact fun h=>h.elim
end
section
variable {α γ:Type} {y:γ} {sz:Nat} {c1:α->List V} {cl:List α->List V}
theorem k_idx {l:List α}{k:α->Option γ}{t e:Nat}{a b:Operand}{w:Own}{yt ye:Ty}(ho:o.op=.indexAddr t a b)(h:(idx' l i).bind k=some y)(ha:ev fr a=some (.slice w l.length (cl l))) [he:b5a cl sz c1]
  (hk:∀x,k x=some y->Os env orc ops rest (Y5 o.dst (.cptr (c1 x++cl (l.drop (i.toNat+1)))) fr) H K)
  (hw:G6 ops o fr=some true:=by exact rfl) (hb:ev fr b=some (.int kk i):=by exact rfl) (h1:O7 t env.T=some yt:=by exact rfl) (h2:yt.sh=.slice e:=by exact rfl) (h3:O7 e env.T=some ye:=by exact rfl) (h4:ye.size=sz:=by exact rfl):Os env orc ops (o::rest) fr H K:=by
 obtain⟨x,g1,g2⟩:=a6u h;exact os_idx he.e g1 hw ho ha hb h1 h2 h3 h4 (hk x g2)
theorem k_idxS {k:Int->Option γ}{t:Nat}{a b:Operand}{yt:Ty}(ho:o.op=.index t a b)(h:(idxS s i).bind k=some y)(hk:∀x,k x=some y->Os env orc ops rest (Y5 o.dst (.int .u8 x) fr) H K)
  (hw:G6 ops o fr=some true:=by exact rfl) (ha:ev fr a=some (.str s):=by exact rfl) (hb:ev fr b=some (.int kk i):=by exact rfl) (h1:O7 t env.T=some yt:=by exact rfl) (h2:yt.sh=.string:=by exact rfl):Os env orc ops (o::rest) fr H K:=by
 obtain⟨x,g1,g2⟩:=a6u h;exact os_idxS g1 hw ho ha hb h1 h2 (hk x g2)
theorem k_subS {j:Int}{k:Str->Option γ}{t:Nat}{a:Operand}{yt:Ty}(ho:o.op=.slice t a lo hi none)(h:(b9A s i j).bind k=some y)(hk:∀x,k x=some y->Os env orc ops rest (Y5 o.dst (.str x) fr) H K)
  (hw:G6 ops o fr=some true:=by exact rfl) (ha:ev fr a=some (.str s):=by exact rfl) (hl:evX fr lo=some l':=by exact rfl) (hh:evX fr hi=some h':=by exact rfl) (hi':bnd l' 0=some i:=by exact rfl) (hj':bnd h' s.length=some j:=by exact rfl)
  (h1:O7 t env.T=some yt:=by exact rfl) (h2:yt.sh=.string:=by exact rfl):Os env orc ops (o::rest) fr H K:=by
 obtain⟨x,g1,g2⟩:=a6u h;exact os_subS g1 hw ho ha hl hh hi' hj' h1 h2 (hk x g2)
theorem k_subL {l:List α}{j:Int}{k:List α->Option γ}{t e:Nat}{w:Own}{a:Operand}{yt ye:Ty}(ho:o.op=.slice t a lo hi none)(h:(a9p l i j).bind k=some y)(ha:ev fr a=some (.slice w l.length (cl l))) [he:b5a cl sz c1]
  (hk:∀x:List α,k x=some y->Os env orc ops rest (Y5 o.dst (.slice .sealed x.length (cl x)) fr) H K)
  (hw:G6 ops o fr=some true:=by exact rfl) (hl:evX fr lo=some l':=by exact rfl) (hh:evX fr hi=some h':=by exact rfl) (hi':bnd l' 0=some i:=by exact rfl) (hj':bnd h' l.length=some j:=by exact rfl)
  (h1:O7 t env.T=some yt:=by exact rfl) (h2:yt.sh=.slice e:=by exact rfl) (h3:O7 e env.T=some ye:=by exact rfl) (h4:ye.size=sz:=by exact rfl) (hq:(l'.isSome||h'.isSome)=true:=by exact rfl):Os env orc ops (o::rest) fr H K:=by
 obtain⟨x,g1,g2⟩:=a6u h;exact os_subL he.e g1 hw ho ha hl hh hi' hj' h1 h2 h3 h4 hq (hk x g2)
theorem k_cat {u:Str}{k:Str->Option γ}{t t2:Nat}{a b:Operand}(ho:o.op=.binOp .add t a b t2)(h:(cat s u).bind k=some y)(hk:∀x,k x=some y->Os env orc ops rest (Y5 o.dst (.str x) fr) H K)
  (hw:G6 ops o fr=some true:=by exact rfl) (ha:ev fr a=some (.str s):=by exact rfl) (hb:ev fr b=some (.str u):=by exact rfl):Os env orc ops (o::rest) fr H K:=by
 obtain⟨x,g1,g2⟩:=a6u h;exact os_cat g1 hw ho ha hb (hk x g2)
section
variable {l m:List α} {k:List α->Option γ} {bytes:Nat} {args:Array Operand} {at_:Array TypeId} {a b:Operand} {t xt e g:Nat} {w:Own} {yt yx ye:Ty} {v:V}
theorem k_app (ho:o.op=.call ⟨.builtin .append,args,at_⟩)(h:(app bytes l m).bind k=some y)(ha:args.toList=[a,b])(hs:ev fr a=some (.slice (.tag g) l.length (cl l))) [he:b5a cl sz c1]
  (hm:Nat.beq m.length 0=false) (hk:∀x,k x=some y -> ∃H1,a0x (some (hset g (.tip (tpe sz x.length) x.length) H))=some H1/\Os env orc ops rest (Y5 o.dst (.slice (.tag g) x.length (cl x)) fr) H1 K)
  (hw:G6 ops o fr=some true:=by exact rfl) (ht:at_.toList=[t,xt]:=by exact rfl) (hv:ev fr b=some v:=by exact rfl)
  (h1:O7 t env.T=some yt:=by exact rfl) (h2:O7 xt env.T=some yx:=by exact rfl) (h3:yt.sh=.slice e:=by exact rfl) (h4:a94 yx.sh=true:=by exact rfl) (h5:O7 e env.T=some ye:=by exact rfl) (h6:ye.size=sz:=by exact rfl) (h7:ye.bytes=bytes:=by exact rfl) (h8:Nat.beq sz 0=false:=by exact rfl)
  (h9:a7W env.T e v H=some (m.length,cl m):=by exact(a9G (a2d rfl) rfl)) (h10:hget g H=some (.tip (tpe sz l.length) l.length):=by exact rfl):Os env orc ops (o::rest) fr H K:=by
 obtain⟨x,g1,g2⟩:=a6u h;obtain⟨H1,g3,g4⟩:=hk x g2;exact c6d he.e g1 hw ho ha ht hs hv h1 h2 h3 h4 h5 h6 h7 h8 h9 hm h10 g3 g4
theorem k_appT (ho:o.op=.call ⟨.builtin .append,args,at_⟩)(h:(app bytes l m).bind k=some y)(ha:args.toList=[a,b]) [he:b4G α cl sz c1]
  (hm:Nat.beq m.length 0=false) (hk:∀x,k x=some y -> ∃H1,a0x (some (hset g (.tip (tpe sz x.length) x.length) H))=some H1/\Os env orc ops rest (Y5 o.dst (.slice (.tag g) x.length (cl x)) fr) H1 K)
  (hs:ev fr a=some (.slice (.tag g) l.length (cl l)):=by exact rfl) (hw:G6 ops o fr=some true:=by exact rfl) (ht:at_.toList=[t,xt]:=by exact rfl) (hv:ev fr b=some v:=by exact rfl)
  (h1:O7 t env.T=some yt:=by exact rfl) (h2:O7 xt env.T=some yx:=by exact rfl) (h3:yt.sh=.slice e:=by exact rfl) (h4:a94 yx.sh=true:=by exact rfl) (h5:O7 e env.T=some ye:=by exact rfl) (h6:ye.size=sz:=by exact rfl) (h7:ye.bytes=bytes:=by exact rfl) (h8:Nat.beq sz 0=false:=by exact rfl)
  (h9:a7W env.T e v H=some (m.length,cl m):=by exact(a9G (a2d rfl) rfl)) (h10:hget g H=some (.tip (tpe sz l.length) l.length):=by exact rfl):Os env orc ops (o::rest) fr H K:=by
 obtain⟨x,g1,g2⟩:=a6u h;obtain⟨H1,g3,g4⟩:=hk x g2;exact c6d he.e g1 hw ho ha ht hs hv h1 h2 h3 h4 h5 h6 h7 h8 h9 hm h10 g3 g4
theorem k_appD (ho:o.op=.call ⟨.builtin .append,args,at_⟩)(h:(app bytes l m).bind k=some y)(ha:args.toList=[a,b])(hs:ev fr a=some (.slice (.tag g) l.length (cl l))) [he:b5a cl sz c1] (hv:ev fr b=some (.slice w2 m.length (cl m)))
  (hk:∀x,k x=some y -> ∃H1,a0x (some (hset g (.tip (tpe sz x.length) x.length) H))=some H1/\Os env orc ops rest (Y5 o.dst (.slice (.tag g) x.length (cl x)) fr) H1 K)
  (hw:G6 ops o fr=some true:=by exact rfl) (ht:at_.toList=[t,xt]:=by exact rfl)
  (h1:O7 t env.T=some yt:=by exact rfl) (h2:O7 xt env.T=some yx:=by exact rfl) (h3:yt.sh=.slice e:=by exact rfl) (h4:a94 yx.sh=true:=by exact rfl) (h5:O7 e env.T=some ye:=by exact rfl) (h6:ye.size=sz:=by exact rfl) (h7:ye.bytes=bytes:=by exact rfl) (h8:Nat.beq sz 0=false:=by exact rfl)
  (h10:hget g H=some (.tip (tpe sz l.length) l.length):=by exact rfl) (hS:a0x (some (hset g (.tip (tpe sz l.length) l.length) H))=some H:=by exact rfl):Os env orc ops (o::rest) fr H K:=by
 obtain⟨x,g1,g2⟩:=a6u h;have h9:a7W env.T e (.slice w2 m.length (cl m)) H=some (m.length,cl m):=by
  have:=he.e.length m;subst h6;simp only[a7W,h5];exact a9G (a2d this.symm) rfl
 obtain⟨H1,g3,g4⟩:=hk x g2;exact c7C he.e g1 hw ho ha ht hs hv h1 h2 h3 h4 h5 h6 h7 h8 h9 h10 hS g3 g4
theorem k_appU (ho:o.op=.call ⟨.builtin .append,args,at_⟩)(h:(app bytes l m).bind k=some y)(ha:args.toList=[a,b]) [he:b4G α cl sz c1] (hv:ev fr b=some (.slice w2 m.length (cl m)))
  (hk:∀x,k x=some y -> ∃H1,a0x (some (hset g (.tip (tpe sz x.length) x.length) H))=some H1/\Os env orc ops rest (Y5 o.dst (.slice (.tag g) x.length (cl x)) fr) H1 K)
  (hs:ev fr a=some (.slice (.tag g) l.length (cl l)):=by exact rfl) (hw:G6 ops o fr=some true:=by exact rfl) (ht:at_.toList=[t,xt]:=by exact rfl)
  (h1:O7 t env.T=some yt:=by exact rfl) (h2:O7 xt env.T=some yx:=by exact rfl) (h3:yt.sh=.slice e:=by exact rfl) (h4:a94 yx.sh=true:=by exact rfl) (h5:O7 e env.T=some ye:=by exact rfl) (h6:ye.size=sz:=by exact rfl) (h7:ye.bytes=bytes:=by exact rfl) (h8:Nat.beq sz 0=false:=by exact rfl)
  (h10:hget g H=some (.tip (tpe sz l.length) l.length):=by exact rfl) (hS:a0x (some (hset g (.tip (tpe sz l.length) l.length) H))=some H:=by exact rfl):Os env orc ops (o::rest) fr H K:=by
 obtain⟨x,g1,g2⟩:=a6u h;have h9:a7W env.T e (.slice w2 m.length (cl m)) H=some (m.length,cl m):=by
  have:=he.e.length m;subst h6;simp only[a7W,h5];exact a9G (a2d this.symm) rfl
 obtain⟨H1,g3,g4⟩:=hk x g2;exact c7C he.e g1 hw ho ha ht hs hv h1 h2 h3 h4 h5 h6 h7 h8 h9 h10 hS g3 g4
theorem k_appN (ho:o.op=.call ⟨.builtin .append,args,at_⟩)(h:(app bytes l m).bind k=some y)(ha:args.toList=[a,b])(how:w=.nil∨w=.full) [he:b4G α cl sz c1]
  (hm:Nat.beq m.length 0=false) (hk:∀x,k x=some y -> ∃H1,a0x (some (hset (newName o) (.tip (tpe sz x.length) x.length) H))=some H1/\Os env orc ops rest (Y5 o.dst (.slice (.tag (newName o)) x.length (cl x)) fr) H1 K)
  (hs:ev fr a=some (.slice w l.length (cl l)):=by exact rfl) (hw:G6 ops o fr=some true:=by exact rfl) (ht:at_.toList=[t,xt]:=by exact rfl) (hv:ev fr b=some v:=by exact rfl)
  (h1:O7 t env.T=some yt:=by exact rfl) (h2:O7 xt env.T=some yx:=by exact rfl) (h3:yt.sh=.slice e:=by exact rfl) (h4:a94 yx.sh=true:=by exact rfl) (h5:O7 e env.T=some ye:=by exact rfl) (h6:ye.size=sz:=by exact rfl) (h7:ye.bytes=bytes:=by exact rfl) (h8:Nat.beq sz 0=false:=by exact rfl)
  (h9:a7W env.T e v H=some (m.length,cl m):=by exact(a9G (a2d rfl) rfl)) (h10:hget (newName o) H=none:=by exact rfl):Os env orc ops (o::rest) fr H K:=by
 obtain⟨x,g1,g2⟩:=a6u h;obtain⟨H1,g3,g4⟩:=hk x g2;exact c7D he.e g1 hw ho ha ht how hs hv h1 h2 h3 h4 h5 h6 h7 h8 h9 hm h10 g3 g4
theorem k_appF (ho:o.op=.call ⟨.builtin .append,args,at_⟩)(h:(app bytes l m).bind k=some y)(ha:args.toList=[a,b])(how:w=.nil/\l=[]∨w=.full/\leN 1 l.length=true) [he:b4G α cl sz c1] (hv:ev fr b=some (.slice w2 m.length (cl m)))
  (hk:∀x,k x=some y -> ∃H1,a0x (some (hset (newName o) (.tip (tpe sz x.length) x.length) H))=some H1/\Os env orc ops rest (Y5 o.dst (.slice (.tag (newName o)) x.length (cl x)) fr) H1 K)
  (hs:ev fr a=some (.slice w l.length (cl l)):=by exact rfl) (hw:G6 ops o fr=some true:=by exact rfl) (ht:at_.toList=[t,xt]:=by exact rfl)
  (h1:O7 t env.T=some yt:=by exact rfl) (h2:O7 xt env.T=some yx:=by exact rfl) (h3:yt.sh=.slice e:=by exact rfl) (h4:a94 yx.sh=true:=by exact rfl) (h5:O7 e env.T=some ye:=by exact rfl) (h6:ye.size=sz:=by exact rfl) (h7:ye.bytes=bytes:=by exact rfl) (h8:Nat.beq sz 0=false:=by exact rfl)
  (h10:hget (newName o) H=none:=by exact rfl):Os env orc ops (o::rest) fr H K:=by
 obtain⟨x,g1,g2⟩:=a6u h;have h9:a7W env.T e (.slice w2 m.length (cl m)) H=some (m.length,cl m):=by
  have:=he.e.length m;subst h6;simp only[a7W,h5];exact a9G (a2d this.symm) rfl
 obtain⟨H1,g3,g4⟩:=hk x g2;exact os_appF he.e g1 hw ho ha ht how hs hv h1 h2 h3 h4 h5 h6 h7 h8 h9 h10 g3 g4
end
end
def takeC:Nat->List V->Option (List V)
 | 0,_=>some []
 | n+1,c::cs=>match takeC n cs with
  | some r=>some (c::r)
  | none=>none
 | _+1,[]=>none
theorem c4D:∀{n:Nat} {cs c:List V},takeC n cs=some c->c.length=n /\ ∃r,cs=c++r
 | 0,cs,c,h=>by cases h;exact⟨rfl,cs,rfl⟩
 | n+1,[],c,h=>by cases h
 | n+1,d::cs,c,h=>by
  unfold takeC at h;split at h
  ·rename_i r hr;cases h;obtain⟨h1,q,h2⟩:=c4D hr;exact⟨by rw[List.length_cons,h1],q,by rw[h2];rfl⟩
  cases h
theorem k_loadA {t:Nat}{a:Operand}{c c':List V}{y:Ty}(ho:o.op=.load t a)(ha:ev fr a=some (.cptr cs))(h1:O7 t env.T=some y)(h2:a2l y.sh=true)(hs:takeC y.size cs=some c)(hf:fL c some=some c')
  (h:Os env orc ops rest (Y5 o.dst (.agg c') fr) H K) (hw:G6 ops o fr=some true:=by exact rfl):Os env orc ops (o::rest) fr H K:=by
 rw[c3m]at hf;cases hf;obtain⟨g1,r,g2⟩:=c4D hs;exact os_loadA hw ho ha g2 h1 h2 g1 h
theorem k_load0 {t:Nat}{a:Operand}(ho:o.op=.load t a)(ha:ev fr a=some (.cptr cs)){v:V}{H1:Hp}(hv:b8m (X6 env orc fr H o)=some (.val v H1))(h:Os env orc ops rest (Y5 o.dst v fr) H1 K)(hw:G6 ops o fr=some true:=by exact rfl):Os env orc ops (o::rest) fr H K :=
 c6e hw (by rw[ho];rfl) hv h
theorem k_if {c:Operand}{a b:Code}{t:Bool}{γ:Type}{X Y z:γ}(hc:ev fr c=some (.bool t))(h:cond t X Y=z)(h1:t=true->X=z->Ev env orc f nr a fr H K)(h2:t=false->Y=z->Ev env orc f nr b fr H K):Ev env orc f nr (.cond c a b) fr H K:=by
 cases t with
 | true=>exact Y9 hc rfl (h1 rfl h)
 | false=>exact a0r hc rfl (h2 rfl h)
theorem k_guard {j d:Nat}{w c:Bool}{fr':Fr}{γ:Type}{X Y z:γ}(h:cond c X Y=z)(hg:o.guard=some (j,w))(hd:(ops[j]?).bind (·.dst)=some d)(hf:fr =(d,.bool c)::fr')
  (h1:c=true->X=z->Os env orc ops (o::rest) ((d,.bool true)::fr') H K) (h2:c=false->Y=z->Os env orc ops (o::rest) ((d,.bool false)::fr') H K):Os env orc ops (o::rest) fr H K:=by
 subst hf;cases c with
 | true=>exact h1 rfl h
 | false=>exact h2 rfl h
theorem k_gd {b:Bool}{γ:Type}{X:Option γ}{z:γ}{G:Prop}(h:gdO b X=some z)(h1:b=true->X=some z->G):G:=by
 obtain⟨h2,h3⟩:=gdO_inv h;exact h1 h2 h3
structure Jn (i:Nat)(α:Type) where
 j:Fr->Hp->α->Fr×Hp
theorem b0v {α γ:Type}{a b:Code}{A:Option α}{k:α->Option γ}{y:γ}(J:Jn (a5C b) α)(h:A.bind k=some y)
  (hA:∀x,A=some x->Ev env orc f nr a fr H (segK env f nr (a5C b) (J.j fr H x).1 (J.j fr H x).2 K)) (hB:∀x,k x=some y->FE (J.j fr H x) fun fr H=>Ev env orc f nr b fr H K) (hc:env.cut f (a5C b)=true:=by exact rfl):Ev env orc f nr (.seq a b) fr H K:=by
 obtain⟨x,h1,h2⟩:=a6u h;exact ev_seg _ _ hc (hA x h1) (FE_ok (hB x h2))
theorem a8j {α:Type}{a b:Code}{A:Option (Lr α ρ)}{k:α->Option ρ}{y:ρ}(KR:ρ->Res->Prop)(J:Jn (a5C b) α)(h:T9 A k=some y)
  (hA:∀x,A=some x->Ev env orc f nr a fr H (segL env f nr (a5C b) x (fun x=>(J.j fr H x).1) (fun x=>(J.j fr H x).2) KR)) (hB:∀x,k x=some y->FE (J.j fr H x) fun fr H=>Ev env orc f nr b fr H K) (hR:∀r,KR y r->r.1 ≠ .normal->K r:=by exact(fun r hr hn=>by obtain⟨e,fr1,H1⟩:=r;cases e<;>first|exact absurd rfl hn|exact hr.elim|exact hr)) (hc:env.cut f (a5C b)=true:=by exact rfl):Ev env orc f nr (.seq a b) fr H K:=by
 obtain⟨x,h1,h2⟩:=c74 h;refine c7d x _ _ hc (hA x h1) (fun z hz=>?_) (fun z r hz hr hn=>?_)
 ·subst hz;exact FE_ok (hB z h2)
 subst hz;cases h2;exact hR r hr hn
theorem a8k {α γ:Type}{a b:Code}{A:Option (Lr α ρ)}{k:α->Option (Lr γ ρ)}{y:Lr γ ρ}(KR:ρ->Res->Prop)(J:Jn (a5C b) α)(h:a8F A k=some y)
  (hA:∀x,A=some x->Ev env orc f nr a fr H (segL env f nr (a5C b) x (fun x=>(J.j fr H x).1) (fun x=>(J.j fr H x).2) KR)) (hB:∀x,k x=some y->FE (J.j fr H x) fun fr H=>Ev env orc f nr b fr H K) (hR:∀z r,y=.out z->KR z r->r.1 ≠ .normal->K r:=by exact(fun z r hz hr hn=>by obtain⟨e,fr1,H1⟩:=r;subst hz;cases e<;>first|exact absurd rfl hn|exact hr.elim|exact⟨_,rfl,hr⟩)) (hc:env.cut f (a5C b)=true:=by exact rfl):Ev env orc f nr (.seq a b) fr H K:=by
 obtain⟨x,h1,h2⟩:=c78 h;refine c7d x _ _ hc (hA x h1) (fun z hz=>?_) (fun z r hz hr hn=>?_)
 ·subst hz;exact FE_ok (hB z h2)
 subst hz;cases h2;exact hR z r rfl hr hn
theorem k_lp {σ ρ:Type}{body:Code}{g:Nat->σ->Option ρ}{y:ρ}(J:σ->Fr×Hp)(h0:∀x,g 0 x=none)
  (hr:∀m,(∀x',g m x'=some y->Lp env f nr body (J x').1 (J x').2 K) -> ∀x,g (m+1) x=some y->FE (J x) fun fr H=>Ev env (E env) f nr body fr H (b0e env f nr body K)):∀m x,g m x=some y->Lp env f nr body (J x).1 (J x).2 K
 | 0,x,h=>by rw[h0]at h;cases h
 | m+1,x,h=>c3K (FE_ok (hr m (fun x' h'=>k_lp J h0 hr m x' h') x h))
theorem a7E {σ:Type}{g:Nat->σ->Option ρ}{s:σ}{y:ρ}(J:Jn (a3q body) σ)(h:g n s=some y)
  (hr:∀m,(∀{x'},g m x'=some y->Lp env f nr body (J.j fr H x').1 (J.j fr H x').2 K) -> ∀x,g (m+1) x=some y->FE (J.j fr H x) fun fr H=>Ev env (E env) f nr body fr H (b0e env f nr body K)) (h0:∀x,g 0 x=none:=by intros;rfl) (hn:normal env f nr (a3q body) fr H=some (J.j fr H s):=by exact rfl):Ev env (E env) f nr (.loop body) fr H K :=
 a4M (fr1:=(J.j fr H s).1) (H1:=(J.j fr H s).2) hn (k_lp (J.j fr H) h0 (fun m ih x hx=>hr m (fun h=>ih _ h) x hx) n s h)
theorem b3P {g:Nat->σ1->σ2->Option ρ}{a1:σ1}{a2:σ2}{y:ρ}(J:Jn (a3q body) (σ1×σ2))(h:g n a1 a2=some y)
  (hr:∀m,(∀{b1 b2},g m b1 b2=some y->Lp env f nr body (J.j fr H (b1,b2)).1 (J.j fr H (b1,b2)).2 K) -> ∀a1 a2,g (m+1) a1 a2=some y->FE (J.j fr H (a1,a2)) fun fr H=>Ev env (E env) f nr body fr H (b0e env f nr body K)) (h0:∀a1 a2,g 0 a1 a2=none:=by intros;rfl) (hn:normal env f nr (a3q body) fr H=some (J.j fr H (a1,a2)):=by exact rfl):Ev env (E env) f nr (.loop body) fr H K :=
 a7E (g:=fun m x=>g m x.1 x.2) (s:=(a1,a2)) J h (fun m ih x hx=>hr m (fun{b1 b2} h=>ih (x':=(b1,b2)) h) x.1 x.2 hx) (fun x=>h0 x.1 x.2) hn
theorem b3Q {g:Nat->σ1->σ2->σ3->Option ρ}{a1:σ1}{a2:σ2}{a3:σ3}{y:ρ}(J:Jn (a3q body) (σ1×σ2×σ3))(h:g n a1 a2 a3=some y)
  (hr:∀m,(∀{b1 b2 b3},g m b1 b2 b3=some y->Lp env f nr body (J.j fr H (b1,b2,b3)).1 (J.j fr H (b1,b2,b3)).2 K) -> ∀a1 a2 a3,g (m+1) a1 a2 a3=some y->FE (J.j fr H (a1,a2,a3)) fun fr H=>Ev env (E env) f nr body fr H (b0e env f nr body K)) (h0:∀a1 a2 a3,g 0 a1 a2 a3=none:=by intros;rfl) (hn:normal env f nr (a3q body) fr H=some (J.j fr H (a1,a2,a3)):=by exact rfl):Ev env (E env) f nr (.loop body) fr H K :=
 a7E (g:=fun m x=>g m x.1 x.2.1 x.2.2) (s:=(a1,a2,a3)) J h (fun m ih x hx=>hr m (fun{b1 b2 b3} h=>ih (x':=(b1,b2,b3)) h) x.1 x.2.1 x.2.2 hx) (fun x=>h0 x.1 x.2.1 x.2.2) hn
theorem b3R {g:Nat->σ1->σ2->σ3->σ4->Option ρ}{a1:σ1}{a2:σ2}{a3:σ3}{a4:σ4}{y:ρ}(J:Jn (a3q body) (σ1×σ2×σ3×σ4))(h:g n a1 a2 a3 a4=some y)
  (hr:∀m,(∀{b1 b2 b3 b4},g m b1 b2 b3 b4=some y->Lp env f nr body (J.j fr H (b1,b2,b3,b4)).1 (J.j fr H (b1,b2,b3,b4)).2 K) -> ∀a1 a2 a3 a4,g (m+1) a1 a2 a3 a4=some y->FE (J.j fr H (a1,a2,a3,a4)) fun fr H=>Ev env (E env) f nr body fr H (b0e env f nr body K)) (h0:∀a1 a2 a3 a4,g 0 a1 a2 a3 a4=none:=by intros;rfl) (hn:normal env f nr (a3q body) fr H=some (J.j fr H (a1,a2,a3,a4)):=by exact rfl):Ev env (E env) f nr (.loop body) fr H K :=
 a7E (g:=fun m x=>g m x.1 x.2.1 x.2.2.1 x.2.2.2) (s:=(a1,a2,a3,a4)) J h (fun m ih x hx=>hr m (fun{b1 b2 b3 b4} h=>ih (x':=(b1,b2,b3,b4)) h) x.1 x.2.1 x.2.2.1 x.2.2.2 hx) (fun x=>h0 x.1 x.2.1 x.2.2.1 x.2.2.2) hn
theorem b3S {g:Nat->σ1->σ2->σ3->σ4->σ5->Option ρ}{a1:σ1}{a2:σ2}{a3:σ3}{a4:σ4}{a5:σ5}{y:ρ}(J:Jn (a3q body) (σ1×σ2×σ3×σ4×σ5))(h:g n a1 a2 a3 a4 a5=some y)
  (hr:∀m,(∀{b1 b2 b3 b4 b5},g m b1 b2 b3 b4 b5=some y->Lp env f nr body (J.j fr H (b1,b2,b3,b4,b5)).1 (J.j fr H (b1,b2,b3,b4,b5)).2 K) -> ∀a1 a2 a3 a4 a5,g (m+1) a1 a2 a3 a4 a5=some y->FE (J.j fr H (a1,a2,a3,a4,a5)) fun fr H=>Ev env (E env) f nr body fr H (b0e env f nr body K)) (h0:∀a1 a2 a3 a4 a5,g 0 a1 a2 a3 a4 a5=none:=by intros;rfl) (hn:normal env f nr (a3q body) fr H=some (J.j fr H (a1,a2,a3,a4,a5)):=by exact rfl):Ev env (E env) f nr (.loop body) fr H K :=
 a7E (g:=fun m x=>g m x.1 x.2.1 x.2.2.1 x.2.2.2.1 x.2.2.2.2) (s:=(a1,a2,a3,a4,a5)) J h (fun m ih x hx=>hr m (fun{b1 b2 b3 b4 b5} h=>ih (x':=(b1,b2,b3,b4,b5)) h) x.1 x.2.1 x.2.2.1 x.2.2.2.1 x.2.2.2.2 hx) (fun x=>h0 x.1 x.2.1 x.2.2.1 x.2.2.2.1 x.2.2.2.2) hn
theorem b3T {g:Nat->σ1->σ2->σ3->σ4->σ5->σ6->Option ρ}{a1:σ1}{a2:σ2}{a3:σ3}{a4:σ4}{a5:σ5}{a6:σ6}{y:ρ}(J:Jn (a3q body) (σ1×σ2×σ3×σ4×σ5×σ6))(h:g n a1 a2 a3 a4 a5 a6=some y)
  (hr:∀m,(∀{b1 b2 b3 b4 b5 b6},g m b1 b2 b3 b4 b5 b6=some y->Lp env f nr body (J.j fr H (b1,b2,b3,b4,b5,b6)).1 (J.j fr H (b1,b2,b3,b4,b5,b6)).2 K) -> ∀a1 a2 a3 a4 a5 a6,g (m+1) a1 a2 a3 a4 a5 a6=some y->FE (J.j fr H (a1,a2,a3,a4,a5,a6)) fun fr H=>Ev env (E env) f nr body fr H (b0e env f nr body K)) (h0:∀a1 a2 a3 a4 a5 a6,g 0 a1 a2 a3 a4 a5 a6=none:=by intros;rfl) (hn:normal env f nr (a3q body) fr H=some (J.j fr H (a1,a2,a3,a4,a5,a6)):=by exact rfl):Ev env (E env) f nr (.loop body) fr H K :=
 a7E (g:=fun m x=>g m x.1 x.2.1 x.2.2.1 x.2.2.2.1 x.2.2.2.2.1 x.2.2.2.2.2) (s:=(a1,a2,a3,a4,a5,a6)) J h (fun m ih x hx=>hr m (fun{b1 b2 b3 b4 b5 b6} h=>ih (x':=(b1,b2,b3,b4,b5,b6)) h) x.1 x.2.1 x.2.2.1 x.2.2.2.1 x.2.2.2.2.1 x.2.2.2.2.2 hx) (fun x=>h0 x.1 x.2.1 x.2.2.1 x.2.2.2.1 x.2.2.2.2.1 x.2.2.2.2.2) hn
theorem b3U {σ7:Type}{g:Nat->σ1->σ2->σ3->σ4->σ5->σ6->σ7->Option ρ}{a1:σ1}{a2:σ2}{a3:σ3}{a4:σ4}{a5:σ5}{a6:σ6}{a7:σ7}{y:ρ}(J:Jn (a3q body) (σ1×σ2×σ3×σ4×σ5×σ6×σ7))(h:g n a1 a2 a3 a4 a5 a6 a7=some y)
  (hr:∀m,(∀{b1 b2 b3 b4 b5 b6 b7},g m b1 b2 b3 b4 b5 b6 b7=some y->Lp env f nr body (J.j fr H (b1,b2,b3,b4,b5,b6,b7)).1 (J.j fr H (b1,b2,b3,b4,b5,b6,b7)).2 K) -> ∀a1 a2 a3 a4 a5 a6 a7,g (m+1) a1 a2 a3 a4 a5 a6 a7=some y->FE (J.j fr H (a1,a2,a3,a4,a5,a6,a7)) fun fr H=>Ev env (E env) f nr body fr H (b0e env f nr body K)) (h0:∀a1 a2 a3 a4 a5 a6 a7,g 0 a1 a2 a3 a4 a5 a6 a7=none:=by intros;rfl) (hn:normal env f nr (a3q body) fr H=some (J.j fr H (a1,a2,a3,a4,a5,a6,a7)):=by exact rfl):Ev env (E env) f nr (.loop body) fr H K :=
 a7E (g:=fun m x=>g m x.1 x.2.1 x.2.2.1 x.2.2.2.1 x.2.2.2.2.1 x.2.2.2.2.2.1 x.2.2.2.2.2.2) (s:=(a1,a2,a3,a4,a5,a6,a7)) J h (fun m ih x hx=>hr m (fun{b1 b2 b3 b4 b5 b6 b7} h=>ih (x':=(b1,b2,b3,b4,b5,b6,b7)) h) x.1 x.2.1 x.2.2.1 x.2.2.2.1 x.2.2.2.2.1 x.2.2.2.2.2.1 x.2.2.2.2.2.2 hx) (fun x=>h0 x.1 x.2.1 x.2.2.1 x.2.2.2.1 x.2.2.2.2.1 x.2.2.2.2.2.1 x.2.2.2.2.2.2) hn
theorem callR_ok {v:V}{ns:List Nat}(h1:a7J (a2K (L8 ns (newName o)) dep v)=some v4)(h2:a0x (a3r (L8 ns (newName o)) H3 H)=some H4)(h3:a6x H H3 (newName o) ns.length=true)(h4:Os env orc ops rest (Y5 o.dst v4 fr) H4 K):CallR env orc ops o rest fr H ns K (.ret v H3):=⟨_,_,h1,h2,h3,h4⟩
theorem c8a {v:V}{ns:List Nat}(h1:a7J (a2K (L8 ns (newName o)) dep v)=some v4)(h2:a0x (a3r (L8 ns (newName o)) H3 H)=some H4)(h3:a6x H H3 (newName o) ns.length=true)(h4:K (.panic v4,fr,H4)):CallR env orc ops o rest fr H ns K (.pan v H3):=⟨_,_,h1,h2,h3,h4⟩
theorem c8H {v v2:V}(h1:a2K a7a dep v=some v2)(h2:Os env orc ops rest (Y5 o.dst v2 fr) H K):c5d env orc ops o rest fr H K (.ret v []):=⟨_,rfl,h1,h2⟩
theorem lookR_ok {v:V}{ns:List Nat}(h1:a7J (a2K (L8 ns (newName o)) dep v)=some v4)(h2:a0x (a3r (L8 ns (newName o)) H3 H)=some H)(h3:a6x H H3 (newName o) ns.length=true)(h4:Os env orc ops rest (Y5 o.dst v4 fr) H K):LookR env orc ops o rest fr H ns K (.ret v H3):=⟨_,h1,h2,h3,h4⟩
theorem fe_ok {j:Fr×Hp}{G:Fr->Hp->Prop}{fr:Fr}{H:Hp}(h1:fF j.1 some=some fr)(h2:fH j.2 some=some H)(h:G fr H):FE j G:=⟨fr,H,h1,h2,h⟩
theorem c8t {id:Nat}{S:List Nat}(ls:Nat->List Nat)(hs:b4C env f id d=some (S,sl))(h:OsP env orc (ls id) sl ops (b03 ops S) fr H (sepK nr ops (ls id) sl K)):Ev env orc f nr (.region id ops d) fr H K:=c5C _ hs h
theorem kP_nil (h1:a9M sl fr=some L)(h2:K (.normal,fr,H)):OsP env orc L sl ops [] fr H (sepK nr ops L sl K):=osP_nil ⟨h1,h2⟩
end
attribute [irreducible] CallR c5d LookR FE
theorem osI {env:Env}{orc:Orc}{ops:Array Oper}{l:List Oper}{fr:Fr}{H:Hp}{K:Res->Prop}(h:Os env orc ops l fr H K):Os env orc ops l fr H K:=h
theorem evI {env:Env}{orc:Orc}{f nr:Nat}{c:Code}{fr:Fr}{H:Hp}{K:Res->Prop}(h:Ev env orc f nr c fr H K):Ev env orc f nr c fr H K:=h
theorem opI {env:Env}{orc:Orc}{ops:Array Oper}{l:List Oper}{fr:Fr}{H:Hp}{K:Res->Prop}(h:OsP env orc L sl ops l fr H K):OsP env orc L sl ops l fr H K:=h
theorem os_nilE {env:Env}{orc:Orc}{f nr:Nat}{ops:Array Oper}{b:Code}{fr:Fr}{H:Hp}{K:Res->Prop}(h:Ev env orc f nr b fr H K):Os env orc ops [] fr H (regK d (thenK env orc f nr b K)):=I4 h
theorem blk {P:Prop}(x:P:=by
  repeat' first
  |(with_reducible intro(h:_=some _))
  | with_reducible refine AllC.all ?_
  | with_reducible intro _
  |((with_reducible refine osI ?_);first
    | refine oR rfl rfl ?_
    | refine os_nilE ?_
    | refine I4 ?_
    | refine k_call rfl h rfl rfl rfl rfl rfl ?_
    | refine k_call rfl (bindP_b h) rfl rfl rfl rfl rfl ?_
    | refine k_quiet rfl h rfl rfl rfl rfl rfl ?_
    | refine k_look rfl h rfl rfl rfl rfl rfl rfl ?_
    | refine k_idx rfl h rfl ?_
    | refine k_loadA rfl rfl rfl rfl rfl rfl ?_
    | refine k_load0 rfl rfl rfl ?_
    |(refine k_app rfl h rfl rfl rfl (fun _ h=>?_);refine⟨_,rfl,?_⟩)
    |(refine k_appT rfl h rfl rfl (fun _ h=>?_);refine⟨_,rfl,?_⟩)
    |(refine k_appN rfl h rfl (.inl rfl) rfl (fun _ h=>?_);refine⟨_,rfl,?_⟩)
    |(refine k_appN rfl h rfl (.inr rfl) rfl (fun _ h=>?_);refine⟨_,rfl,?_⟩)
    |(refine k_appD rfl h rfl rfl rfl (fun _ h=>?_);refine⟨_,rfl,?_⟩)
    |(refine k_appU rfl h rfl rfl (fun _ h=>?_);refine⟨_,rfl,?_⟩)
    |(refine k_appF rfl h rfl (.inl ⟨rfl,rfl⟩) rfl (fun _ h=>?_);refine⟨_,rfl,?_⟩)
    |(refine k_appF rfl h rfl (.inr ⟨rfl,a9s (Nat.succ_le_succ (Nat.zero_le _))⟩) rfl (fun _ h=>?_);refine⟨_,rfl,?_⟩)
    | refine k_idxS rfl h ?_
    | refine k_cat rfl h ?_
    | refine k_subS rfl h ?_
    | refine k_subL rfl h rfl ?_
    | refine c7G rfl ?_
    | refine o7 rfl rfl rfl ?_
    | refine c3Q rfl rfl rfl ?_
    | refine c7E (m:=[]) (ek:=V.int .i64) (eb:=V.str) (b1D _) rfl rfl rfl rfl rfl rfl rfl rfl rfl rfl rfl rfl ?_
    | refine c7E (ek:=V.int .i64) (eb:=V.str) (b1D _) rfl rfl rfl rfl rfl rfl rfl rfl rfl rfl rfl rfl ?_
    | refine c6e rfl rfl rfl ?_
    | refine os_pickT rfl rfl rfl zAs rfl ?_
    | refine os_pickF rfl rfl rfl zAs rfl ?_
    | refine k_guard h rfl rfl rfl (fun e h=>?_) (fun e h=>?_)
    |(refine k_gd h (fun e h=>?_);refine o7 rfl rfl (a0M e rfl) ?_)
    | refine os_panic rfl rfl rfl ?_
    | refine c7F (ek:=V.int .i64) (eb:=V.bool) (d:=false) (b1D _) rfl rfl rfl rfl rfl rfl rfl rfl rfl rfl rfl ?_
    | refine os_mapU (ek:=V.int .i64) (eb:=V.bool) (b1D _) rfl rfl rfl rfl rfl rfl rfl rfl rfl rfl rfl rfl ?_
    | refine c7F (ek:=V.int .i64) (eb:=V.str) (d:=[]) (b1D _) rfl rfl rfl rfl rfl rfl rfl rfl rfl rfl rfl ?_
    | refine os_toStr rfl rfl rfl rfl rfl rfl rfl rfl rfl ?_
    | refine os_ofStr rfl rfl rfl rfl rfl rfl rfl rfl rfl ?_)
  |((with_reducible refine evI ?_);first
    | refine eSG ?_
    | refine k_if rfl h (fun e h=>?_) (fun e h=>?_)
    | refine H6 ?_
    | refine a2k ?_
    | refine F7 ?_
    | refine M8 ?_
    | refine A7 ?_
    | refine E8 ?_
    | refine Y9 rfl rfl ?_
    | refine a0r rfl rfl ?_
    | refine Y9 rfl zAs ?_
    | refine a0r rfl zAs ?_
    | refine c8t ls rfl ?_
    | refine b0v jn1 h ?_ ?_|refine a8j kr jn1 h ?_ ?_|refine a8k kr jn1 h ?_ ?_
     | refine b0v jn2 h ?_ ?_|refine a8j kr jn2 h ?_ ?_|refine a8k kr jn2 h ?_ ?_
     | refine b0v jn3 h ?_ ?_|refine a8j kr jn3 h ?_ ?_|refine a8k kr jn3 h ?_ ?_
     | refine b0v jn4 h ?_ ?_|refine a8j kr jn4 h ?_ ?_|refine a8k kr jn4 h ?_ ?_
     | refine b0v jn5 h ?_ ?_|refine a8j kr jn5 h ?_ ?_|refine a8k kr jn5 h ?_ ?_
     | refine b0v jn6 h ?_ ?_|refine a8j kr jn6 h ?_ ?_|refine a8k kr jn6 h ?_ ?_
     | refine b0v jn7 h ?_ ?_|refine a8j kr jn7 h ?_ ?_|refine a8k kr jn7 h ?_ ?_
     | refine b0v jn8 h ?_ ?_|refine a8j kr jn8 h ?_ ?_|refine a8k kr jn8 h ?_ ?_
     | refine b0v jn9 h ?_ ?_|refine a8j kr jn9 h ?_ ?_|refine a8k kr jn9 h ?_ ?_
     | refine b0v jn10 h ?_ ?_|refine a8j kr jn10 h ?_ ?_|refine a8k kr jn10 h ?_ ?_
     | refine b0v jn11 h ?_ ?_|refine a8j kr jn11 h ?_ ?_|refine a8k kr jn11 h ?_ ?_
     | refine b0v jn12 h ?_ ?_|refine a8j kr jn12 h ?_ ?_|refine a8k kr jn12 h ?_ ?_
     | refine b0v jn13 h ?_ ?_|refine a8j kr jn13 h ?_ ?_|refine a8k kr jn13 h ?_ ?_
     | refine b0v jn14 h ?_ ?_|refine a8j kr jn14 h ?_ ?_|refine a8k kr jn14 h ?_ ?_
    | refine a7E jl1 h (fun m ih=>?_)
     | refine b3P jl1 h (fun m ih=>?_)
     | refine b3Q jl1 h (fun m ih=>?_)
     | refine b3R jl1 h (fun m ih=>?_)
     | refine b3S jl1 h (fun m ih=>?_)
     | refine b3T jl1 h (fun m ih=>?_)
     | refine b3U jl1 h (fun m ih=>?_)
     | refine a7E jl2 h (fun m ih=>?_)
     | refine b3P jl2 h (fun m ih=>?_)
     | refine b3Q jl2 h (fun m ih=>?_)
     | refine b3R jl2 h (fun m ih=>?_)
     | refine b3S jl2 h (fun m ih=>?_)
     | refine b3T jl2 h (fun m ih=>?_)
     | refine b3U jl2 h (fun m ih=>?_)
     | refine a7E jl3 h (fun m ih=>?_)
     | refine b3P jl3 h (fun m ih=>?_)
     | refine b3Q jl3 h (fun m ih=>?_)
     | refine b3R jl3 h (fun m ih=>?_)
     | refine b3S jl3 h (fun m ih=>?_)
     | refine b3T jl3 h (fun m ih=>?_)
     | refine b3U jl3 h (fun m ih=>?_)
     | refine a7E jl4 h (fun m ih=>?_)
     | refine b3P jl4 h (fun m ih=>?_)
     | refine b3Q jl4 h (fun m ih=>?_)
     | refine b3R jl4 h (fun m ih=>?_)
     | refine b3S jl4 h (fun m ih=>?_)
     | refine b3T jl4 h (fun m ih=>?_)
     | refine b3U jl4 h (fun m ih=>?_)
     | refine a7E jl5 h (fun m ih=>?_)
     | refine b3P jl5 h (fun m ih=>?_)
     | refine b3Q jl5 h (fun m ih=>?_)
     | refine b3R jl5 h (fun m ih=>?_)
     | refine b3S jl5 h (fun m ih=>?_)
     | refine b3T jl5 h (fun m ih=>?_)
     | refine b3U jl5 h (fun m ih=>?_)
     | refine a7E jl6 h (fun m ih=>?_)
     | refine b3P jl6 h (fun m ih=>?_)
     | refine b3Q jl6 h (fun m ih=>?_)
     | refine b3R jl6 h (fun m ih=>?_)
     | refine b3S jl6 h (fun m ih=>?_)
     | refine b3T jl6 h (fun m ih=>?_)
     | refine b3U jl6 h (fun m ih=>?_)
    )
  |((with_reducible refine opI ?_);first
    | refine kP_nil rfl ?_
    | refine c3O rfl ?_
    | refine osP_cons rfl ?_)
  | refine callR_ok rfl rfl rfl ?_
  | refine c8a rfl rfl rfl ?_
  | refine c8H rfl ?_
  | refine lookR_ok rfl rfl rfl ?_
  | refine fe_ok rfl rfl ?_
  |((fail_if_success (with_reducible refine evI ?_));refine evI ?_)
  |((fail_if_success (with_reducible refine opI ?_));refine opI ?_)
  |((fail_if_success (with_reducible refine osI ?_));refine osI ?_)
  |(cases h;first
    | exact⟨_,_,_,rfl,rfl,rfl⟩
    | exact⟨_,_,rfl,rfl⟩
    | exact rfl
    | exact⟨_,rfl,rfl⟩
    | exact⟨_,rfl,_,_,_,rfl,rfl,rfl⟩
    | exact⟨_,rfl,_,_,rfl,rfl⟩
    | exact⟨rfl,rfl,_,_,rfl,_,_,rfl,rfl⟩
    | exact⟨rfl,rfl,_,_,rfl,_,rfl,_,_,rfl,rfl⟩)
  | exact⟨_,_,rfl,ih h⟩
  | exact trivial
  | refine And.intro ?_ ?_):P:=x
@[reducible] def tpl {α:Type} (b:Nat) (l:List α):Obj:=.tip (tpe b (List.length l)) (List.length l)
@[reducible] def zs (k:Nat):V:=.slice (.tag k) 0 []
theorem mkF {env:Env}{α:Type}{p:Option α}{g:Nat}{l:List V}{H:Hp}{o:α->Out}{fn:Func}{c:Code}(hf:env.P.funcs[g]? = some fn)(hb:fn.body=some c)
  (h:let kr:=fun r=>OutK env g H.length fn.results.toList (o r); ∀r,p=some r->Ev env (E env) g H.length c (a6G 0 l) H (OutK env g H.length fn.results.toList (o r)))
  (hi:env.intr g=none:=by exact rfl) (hok:env.ok g=true:=by exact rfl):OkF env p g l H o:=⟨fun{r} hr=>call_out hi hf hok hb (h r hr)⟩
variable {P:Prop}
theorem zB:(∀a b,eqB a b =(a==b))/\(∀a b,ltB a b=decide (a<b))/\(∀a b,leB a b=decide (a<=b))/\(∀a b,eqS a b =(a==b))/\(∀{p:Prop} [Decidable p],decide p=true↔p)/\(∀{p:Prop} [Decidable p],decide p=false ↔ ¬p)/\(∀{α:Type} [BEq α] [LawfulBEq α] {a b:α},(a==b)=true↔a=b)/\(∀{α:Type} [BEq α] [LawfulBEq α] {a b:α},(a==b)=false↔a≠b)/\(∀{α:Type} (a b:α),(a≠b) = ¬a=b)/\(∀n:Nat,(n:Int).toNat=n)/\(∀b,((!b)=true) =(b=false)) /\ ∀b,((!b)=false) =(b=true):=by
 refine⟨?_,?_,?_,?_,decide_eq_true_iff,decide_eq_false_iff_not,beq_iff_eq,beq_eq_false_iff_ne,fun _ _=>rfl,fun _=>rfl,by simp,by simp⟩<;>intros<;>first|unfold eqB;rfl|unfold ltB;rfl|unfold leB;rfl|unfold eqS;rfl
theorem zT (b:Bool):(b&&true)=b/\(true&&b)=b/\(b&&false)=false/\(false&&b)=false/\(b||true)=true/\(true||b)=true/\(b||false)=b/\(false||b)=b/\(!true)=false/\(!false)=true:=by cases b<;>decide
theorem oFA (x:P:=by
 repeat(first|exact Off.refl|refine Off.right rfl ?_|refine Off.left rfl ?_|refine Off.over ?_|refine Off.noop2 rfl ?_)):P:=x
theorem rSp (x:P:=by
 repeat(first|exact resp_ret rfl|exact c8O rfl|refine c8P (by kernel_rfl) ?_|refine c6q ?_|refine c6r (by kernel_rfl) ?_|refine c8N (by kernel_rfl) ?_)):P:=x
@[reducible] def hW {α:Type} (f:List α->List V) (l:List α):Hp:=[(0,.row [.slice (.tag 1) (List.length l) (f l)]),(1,.tip (tpe 1 (List.length l)) (List.length l))]
@[reducible] def hT {α:Type} (l:List α):Hp:=[(0,.tip (tpe 1 (List.length l)) (List.length l))]
@[reducible] def p0:Nat×V:=(0,.ptr 0 0)
@[reducible] def t0:Obj:=.tip 0 0
@[reducible] def r3 {α:Type} (f:List α->List V) (l:List α) (a b c:Int):Obj:=.row [.slice .sealed (List.length l) (f l),.int .i64 a,.int .i64 b,.int .i64 c]
@[reducible] def r2 {α:Type} (f:List α->List V) (l:List α) (a b:Int):Obj:=.row [.slice .sealed (List.length l) (f l),.int .i64 a,.int .i64 b]
@[reducible] def nz (a b c:Nat):Obj:=.row [.int .i64 0,.str [],.int .i64 0,.int .i64 0,.str [],.int .i64 0,zs a,zs b,zs c,.int .i64 0]
@[reducible] def tz (a:Nat):Obj:=.row [.int .i64 0,.str [],.int .i64 0,zs a]
theorem okN {env:Env}{α:Type}{g:Nat}{l:List V}{H:Hp}{o:α->Out}:OkF env (none:Option α) g l H o:=⟨fun h=>by cases h⟩
def hpn:Nat->List Obj->Hp|_,[]=>[]|k,x::r=>(k,x)::hpn (k+1) r
@[reducible] def jJ {i:Nat} {α:Type} (g:Fr->Hp->α->Fr×List Obj):Jn i α:=⟨fun fr H z=>((g fr H z).1,hpn 0 (g fr H z).2)⟩
end Go.Vm
namespace Go.Proofs.YtimgnjbjbdgmaaaGreatDoor
open Go Go.Vm
structure Typ where
 kind:Int
 name:Str
 n:Int
 args:List Typ
mutual
def Typ.sub:Typ->List V
 |⟨_,_,_,a3⟩=>H7 a3
def H7:List Typ->List V
 | []=>[]
 | x::r=>.int .i64 x.kind :: .str x.name :: .int .i64 x.n :: .slice .sealed (List.length x.args) (x.sub)::H7 r
end
def c1Typ (x:Typ):List V:=[.int .i64 x.kind,.str x.name,.int .i64 x.n,.slice .sealed (List.length x.args) (H7 x.args)]
theorem c1p:a5B 4 c1Typ H7:=⟨fun _=>rfl,rfl,fun x r=>by cases x;rfl⟩
instance:b5a H7 4 c1Typ:=⟨c1p⟩
instance:b4G Typ H7 4 c1Typ:=⟨c1p⟩
structure Nod where
 op:Int
 s:Str
 n:Int
 t:Typ
 ts:List Typ
 l:List Nod
 at_:Int
mutual
def Nod.sub:Nod->List V
 |⟨_,_,_,_,_,a5,_⟩=>D9 a5
def D9:List Nod->List V
 | []=>[]
 | x::r=>.int .i64 x.op :: .str x.s :: .int .i64 x.n :: .int .i64 x.t.kind :: .str x.t.name :: .int .i64 x.t.n :: .slice .sealed (List.length x.t.args) (H7 x.t.args) :: .slice .sealed (List.length x.ts) (H7 x.ts) :: .slice .sealed (List.length x.l) (x.sub) :: .int .i64 x.at_::D9 r
end
def b2S (x:Nod):List V:=[.int .i64 x.op,.str x.s,.int .i64 x.n,.int .i64 x.t.kind,.str x.t.name,.int .i64 x.t.n,.slice .sealed (List.length x.t.args) (H7 x.t.args),.slice .sealed (List.length x.ts) (H7 x.ts),.slice .sealed (List.length x.l) (D9 x.l),.int .i64 x.at_]
theorem b79:a5B 10 b2S D9:=⟨fun _=>rfl,rfl,fun x r=>by cases x;rfl⟩
instance:b5a D9 10 b2S:=⟨b79⟩
instance:b4G Nod D9 10 b2S:=⟨b79⟩
structure Flt where
 code:Int
 at_:Int
def c1Flt (x:Flt):List V:=[.int .i64 x.code,.int .i64 x.at_]
def b4r:List Flt->List V | []=>[]|x::r=>.int .i64 x.code :: .int .i64 x.at_::b4r r
theorem encFlt:a5B 2 c1Flt b4r:=⟨fun _=>rfl,rfl,fun _ _=>rfl⟩
instance:b5a b4r 2 c1Flt:=⟨encFlt⟩
instance:b4G Flt b4r 2 c1Flt:=⟨encFlt⟩
structure Tok where
 kind:Int
 text:Str
 at_:Int
 len:Int
def c1Tok (x:Tok):List V:=[.int .i64 x.kind,.str x.text,.int .i64 x.at_,.int .i64 x.len]
def u7:List Tok->List V | []=>[]|x::r=>.int .i64 x.kind :: .str x.text :: .int .i64 x.at_ :: .int .i64 x.len::u7 r
theorem c5y:a5B 4 c1Tok u7:=⟨fun _=>rfl,rfl,fun _ _=>rfl⟩
instance:b5a u7 4 c1Tok:=⟨c5y⟩
instance:b4G Tok u7 4 c1Tok:=⟨c5y⟩
structure q9 where
 fault:Flt
def b1J (x:q9):List V:=[.int .i64 x.fault.code,.int .i64 x.fault.at_]
def a9E:List q9->List V | []=>[]|x::r=>.int .i64 x.fault.code :: .int .i64 x.fault.at_::a9E r
theorem b4s:a5B 2 b1J a9E:=⟨fun _=>rfl,rfl,fun _ _=>rfl⟩
instance:b5a a9E 2 b1J:=⟨b4s⟩
instance:b4G q9 a9E 2 b1J:=⟨b4s⟩
structure R4 where
 ops:List Str
 once:Bool
def b0I (x:R4):List V:=[.slice .sealed (List.length x.ops) (clS x.ops),.bool x.once]
def a2c:List R4->List V | []=>[]|x::r=>.slice .sealed (List.length x.ops) (clS x.ops) :: .bool x.once::a2c r
theorem b2X:a5B 2 b0I a2c:=⟨fun _=>rfl,rfl,fun _ _=>rfl⟩
instance:b5a a2c 2 b0I:=⟨b2X⟩
instance:b4G R4 a2c 2 b0I:=⟨b2X⟩
instance:AllC Typ (fun P=>∀a0 a1 a2 a3,P ⟨a0,a1,a2,a3⟩):=⟨fun h x=>by obtain⟨a0,a1,a2,a3⟩:=x;exact h a0 a1 a2 a3⟩
instance:AllC Nod (fun P=>∀a0 a1 a2 a3 a4 a5 a6 a7 a8 a9,P ⟨a0,a1,a2,⟨a3,a4,a5,a6⟩,a7,a8,a9⟩):=⟨fun h x=>by obtain⟨a0,a1,a2,⟨a3,a4,a5,a6⟩,a7,a8,a9⟩:=x;exact h a0 a1 a2 a3 a4 a5 a6 a7 a8 a9⟩
@[reducible] def cN (x:Nod):List V:=c0 x.op x.s x.n x.t.kind x.t.name x.t.n (.sl H7 x.t.args) (.sl H7 x.ts) (.sl D9 x.l) x.at_
@[reducible] def rT (x:Typ):Go.Vm.Obj:=.row [.int .i64 x.kind,.str x.name,.int .i64 x.n,.sl H7 x.args]
@[reducible] def rN (x:Nod):Go.Vm.Obj:=.row (cN x)
theorem zD:(∀{α:Type} (l:List α),l.drop 0=l)/\((0:Nat):Int)=0/\((1:Nat):Int)=1:=⟨fun _=>rfl,rfl,rfl⟩
end Go.Proofs.YtimgnjbjbdgmaaaGreatDoor
namespace Go.Vm
def eqV1:V->V->Bool | .bool a,.bool b=>decide (a=b) | .int j a,.int k b=>decide (j=k)&&decide (a=b) | .str a,.str b=>decide (a=b) | .nilptr,.nilptr=>true | .slice .nil 0 [],.slice .nil 0 []=>true | .nilFunc,.nilFunc=>true | .nilIface,.nilIface=>true | .opq,.opq=>true|_,_=>false
theorem eqV1_ok {a b:V}(h:eqV1 a b=true):a=b:=by
 unfold eqV1 at h;split at h<;>first|rfl|cases h |(simp at h;simp[h])
def eqVs1:List V->List V->Bool | [],[]=>true|a::r,b::s=>eqV1 a b&&eqVs1 r s|_,_=>false
theorem c3j:∀{a b:List V},eqVs1 a b=true->a=b
 | [],[],_=>rfl
 | a::r,b::s,h=>by
  simp only[eqVs1,Bool.and_eq_true]at h;rw[eqV1_ok h.1,c3j h.2]
 | [],_::_,h=>by cases h
 | _::_,[],h=>by cases h
def isAggV:Value->Bool | .agg _=>true|_=>false
def infoB (P:Program)(t:Nat)(y:Ty):Bool :=
 match P.info? t with
 | none=>false
 | some i=>match i.zero with
  | none=>false
  | some z=>decide (i.size=y.size)&&decide (i.bytes=y.bytes)&&(match a2r b1U z.cells.toList with|some l=>eqVs1 l y.zero|none=>false)&&decide (z.cells.size=y.size)&&decide (isAggV z=a2l y.sh)
def shB (P:Program)(t:Nat):Sh->Bool
 | .bool=>match P.underlying t with|some .bool=>true|_=>false
 | .string=>match P.underlying t with|some .string=>true|_=>false
 | .int k=>match P.underlying t with|some (.int j)=>decide (j=k)|_=>false
 | .ptr e=>match P.underlying t with|some (.pointer j)=>decide (j=e)|_=>false
 | .slice e=>match P.underlying t with|some (.slice j)=>decide (j=e)|_=>false
 | .array n e=>match P.underlying t with|some (.array m j)=>decide (m=n)&&decide (j=e)|_=>false
 | .struct fs=>match P.underlying t with
  | some (.struct l)=>!P.stoodInHeld t&&decide ((l.toList.map fun f=>(f.type,f.offset))=fs)&&l.toList.all (fun f=>decide (f.name ≠ "_"))&&l.toList.all (fun f=>(P.info? f.type).isSome)
  | _=>false
 | .iface=>match P.underlying t with|some (.interface _)=>true|_=>false
 | .func=>match P.underlying t with|some (.func ..)=>true|_=>false
 | .other=>(P.underlying t).isSome
 | .map k e=>match P.underlying t with|some (.map i j)=>decide (i=k)&&decide (j=e)|_=>false
 | .blk fs=>match P.underlying t with
  | some (.struct l)=>decide ((l.toList.map fun f=>(f.type,f.offset))=fs)&&l.toList.all (fun f=>(P.info? f.type).isSome)
  | _=>false
def c4t (P:Program)(t:Nat)(s:Sh):Bool :=
 match P.underlying t with
 | none=>false
 | some d=>(a2l s ||(match d with | .struct _ | .array ..=>false|_=>true))&&(match s,d with | .iface,_=>true|_,.interface _=>false|_,_=>true) &&
  (match s with | .iface | .array .. | .blk _=>true|_=>!P.eqGuardType P.depth t)
def tyB (P:Program)(t:Nat)(y:Ty):Bool:=infoB P t y&&shB P t y.sh&&c4t P t y.sh
theorem c2Z {z:Value}(h:isAggV z=false):z.cells = #[z]:=by cases z<;>first|rfl|cases h
theorem tyB_ok {P:Program}{t:Nat}{y:Ty}(h:tyB P t y=true):TyOk P t y:=by
 simp only[tyB,Bool.and_eq_true]at h;obtain⟨⟨h1,h2⟩,h3⟩:=h;refine⟨?_,?_,?_,?_,?_,?_⟩
 ·unfold infoB at h1;split at h1
  ·cases h1
  rename_i i hi;split at h1
  ·cases h1
  rename_i z hz;simp only[Bool.and_eq_true,decide_eq_true_eq]at h1;obtain⟨⟨⟨⟨g1,g2⟩,g3⟩,g4⟩,g5⟩:=h1;split at g3
  ·rename_i l hl;have:=c3j g3;subst this;refine⟨i,z,hi,g1,g2,hz,hl,g4,fun ha=>?_,fun ha=>c2Z (g5.trans ha)⟩;rw[ha]at g5;cases z<;>first|exact⟨_,rfl⟩|cases g5
  cases g3
 ·unfold shB at h2;split at h2<;>rename_i hs<;>simp only[hs]
  ·split at h2<;>first|assumption|cases h2
  ·split at h2<;>first|assumption|cases h2
  ·split at h2
   ·rename_i hu;simp only[decide_eq_true_eq]at h2;subst h2;exact hu
   cases h2
  ·split at h2
   ·rename_i hu;simp only[decide_eq_true_eq]at h2;subst h2;exact hu
   cases h2
  ·split at h2
   ·rename_i hu;simp only[decide_eq_true_eq]at h2;subst h2;exact hu
   cases h2
  ·split at h2
   ·rename_i hu;simp only[Bool.and_eq_true,decide_eq_true_eq]at h2;obtain⟨rfl,rfl⟩:=h2;exact hu
   cases h2
  ·split at h2
   ·rename_i l hu;simp only[Bool.and_eq_true,Bool.not_eq_true',decide_eq_true_eq]at h2;obtain⟨⟨⟨g1,g2⟩,g3⟩,g4⟩:=h2;exact⟨g1,l,hu,g2,by simpa using g3,g4⟩
   cases h2
  ·split at h2
   ·rename_i ms hu;exact⟨ms,hu⟩
   cases h2
  ·split at h2
   ·rename_i a b c hu;exact⟨a,b,c,hu⟩
   cases h2
  ·split at h2
   ·rename_i hu;simp only[Bool.and_eq_true,decide_eq_true_eq]at h2;obtain⟨rfl,rfl⟩:=h2;exact hu
   cases h2
  split at h2
  ·rename_i l hu;simp only[Bool.and_eq_true,decide_eq_true_eq]at h2;exact⟨l,hu,h2.1,h2.2⟩
  cases h2
 ·intro ha d hd;unfold c4t at h3;rw[hd]at h3;simp only[ha,Bool.false_or,Bool.and_eq_true]at h3;obtain⟨⟨g,_⟩,_⟩:=h3;constructor
  ·rintro fs rfl;cases g
  rintro n e rfl;cases g
 ·unfold c4t at h3;split at h3
  ·cases h3
  rename_i d hd;exact⟨d,hd⟩
 ·intro hs ms hu;unfold c4t at h3;rw[hu]at h3;simp only[Bool.and_eq_true]at h3;obtain⟨⟨_,g⟩,_⟩:=h3;cases hy:y.sh<;>rw[hy]at g hs<;>first|exact hs|cases g
 intro hs;unfold c4t at h3;split at h3
 ·cases h3
 simp only[Bool.and_eq_true]at h3;obtain⟨_,g⟩:=h3;cases hy:y.sh<;>rw[hy]at g hs<;>first|exact hs.elim|simpa using g
def tysB (P:Program)(T:List (Nat×Ty)):Bool:=T.all fun p=>tyB P p.1 p.2
theorem b0F {P:Program}:∀{T:List (Nat×Ty)},tysB P T=true->TOk P T
 | [],_,t,y,h=>by cases h
 |(s,z)::r,hb,t,y,h=>by
  simp only[tysB,List.all_cons,Bool.and_eq_true]at hb;simp only[O7]at h;split at h
  ·rename_i hs;cases h;have:=Nat.eq_of_beq_eq_true hs;subst this;exact tyB_ok hb.1
  exact b0F hb.2 t y h
def b2U (env:Env)(l:List Nat):Bool:=l.all fun g=>match env.P.funcs[g]? with
 | none=>true
 | some fn=>!(fn.name == "runtime.NumGoroutine")&&match fn.body with
  | none=>true
  | some c=>a8G env g fn.ntmps c
theorem c3q {k:Nat}:∀{l:List Nat},has k l=true->k∈l
 | [],h=>by cases h
 | a::r,h=>by
  simp only[has]at h;split at h
  ·rename_i hb;rw[Nat.eq_of_beq_eq_true hb];exact List.mem_cons_self ..
  exact List.mem_cons_of_mem _ (c3q h)
theorem a9P {env:Env} {l:List Nat} (hok:∀g,env.ok g=true->has g l=true) (h:b2U env l=true):∀g fn c,env.ok g=true->env.P.funcs[g]? = some fn->fn.body=some c->a8G env g fn.ntmps c=true/\(fn.name == "runtime.NumGoroutine")=false:=by
 intro g fn c h1 h2 h3;rw[b2U,List.all_eq_true]at h;have:=h g (c3q (hok g h1));rw[h2]at this;simp only[h3,Bool.and_eq_true,Bool.not_eq_true']at this;exact⟨this.2,this.1⟩
end Go.Vm
namespace Go.Proofs.YtimgnjbjbdgmaaaGreatDoor.Sc
open Go Go.Vm
def T:List (Nat×Ty):=[(3,⟨.int .i64,1,8,[.i 0]⟩),(4,⟨.bool,1,1,[.bool false]⟩),(5,⟨.int .u8,1,1,[.int .u8 0]⟩),(9,⟨.string,1,16,[.str []]⟩),(40,⟨.int .i64,1,8,[.i 0]⟩),(42,⟨.struct [(40,0),(3,1)],2,16,[.i 0,.i 0]⟩),(45,⟨.slice 78,1,24,[.slice .nil 0 []]⟩),(53,⟨.slice 5,1,24,[.slice .nil 0 []]⟩),(57,⟨.slice 9,1,24,[.slice .nil 0 []]⟩),(78,⟨.struct [(3,0),(9,1),(3,2),(3,3)],4,40,[.i 0,.str [],.i 0,.i 0]⟩),(96,⟨.slice 3,1,24,[.slice .nil 0 []]⟩),(100,⟨.struct [(9,0),(3,1),(4,2)],3,32,[.str [],.i 0,.bool false]⟩),(112,⟨.ptr 116,1,8,[.nilptr]⟩),(114,⟨.struct [(9,0),(3,1)],2,24,[.str [],.i 0]⟩),(116,⟨.struct [(114,0),(45,2),(42,3)],5,64,[.str [],.i 0,.slice .nil 0 [],.i 0,.i 0]⟩),(128,⟨.func,1,8,[.nilFunc]⟩),(145,⟨.ptr 114,1,8,[.nilptr]⟩),(148,⟨.array 32 9,32,512,[.str [],.str [],.str [],.str [],.str [],.str [],.str [],.str [],.str [],.str [],.str [],.str [],.str [],.str [],.str [],.str [],.str [],.str [],.str [],.str [],.str [],.str [],.str [],.str [],.str [],.str [],.str [],.str [],.str [],.str [],.str [],.str []]⟩),(150,⟨.array 27 9,27,432,[.str [],.str [],.str [],.str [],.str [],.str [],.str [],.str [],.str [],.str [],.str [],.str [],.str [],.str [],.str [],.str [],.str [],.str [],.str [],.str [],.str [],.str [],.str [],.str [],.str [],.str [],.str []]⟩)]
def keep:Nat->Nat->List Nat|34,6=>[0,3,5,6,4,7]|85,2=>[0,1,2,7]|64,1=>[0,1]|64,6=>[0,1]|66,2=>[0,1,2,3,8,9,10]|134,0=>[0]|138,5=>[0,1,5,6,7,8]|143,3=>[0,3,4]|111,1=>[0,1]|113,1=>[0,1]|115,2=>[0,1,5]|160,2=>[0,1,5]|164,2=>[0,1,5,6]|_,_=>[]
def okL:List Nat:=[41,34,116,151,85,64,65,66,67,163,165,134,135,136,137,138,139,140,141,142,143,144,107,108,109,110,111,112,113,114,115,158,159,160,161,162,164]
def b2g:List Nat:=[41,116,151,64,65,66,67,163,165,139,141,107,108,109,110,111,112,113,114,115,158,161,162]
noncomputable def env:Env:={P:=Tryz.prog,T:=T,keep:=keep,byref:=fun f s=>match f,s with|34,5=>some 1|34,6=>some 1|_,_=>none,meth:=fun _ _=>none,tags:=fun _=>false,argTags:=fun _=>false,quiet:=fun g=>has g b2g,loose:=fun _=>false,intr:=fun _=>none,ok:=fun g=>has g okL}
theorem tys:tysB Tryz.prog T=true:=zKr
theorem codes:b2U env okL=true:=zKr
theorem mixed:Tryz.prog.follows .mixedOrders=true:=zKr
theorem b8H:a9V env:=by
 intro _ _ _ h;cases h
theorem b5j:a7M env:=⟨b8H,b0F tys,mixed,a9P (fun _ h=>h) codes,(fun _ _ h=>by cases h),(fun _ _ _ h=>by cases h)⟩
def b2W (n:Int):Bool:=leB 48 n&&leB n 57
theorem c41I (n:Int):E env (.call 139 [.int .u8 n]) []=some (.ret (.bool (b2W n)) []):=by
 refine U3 rfl Tryz.func139 rfl rfl ?_;refine eSG (oB 1 rfl (eSG (oA 3 rfl ?_)));refine J3 rfl rfl rfl (fun h1=>?_) (fun h1=>?_)
 ·refine oB 4 rfl ?_;exact F7 ⟨_,rfl,by show some (V.bool _,_)=some (V.bool _,_);simp[b2W, *]⟩
 refine oB 4 rfl ?_;exact F7 ⟨_,rfl,by show some (V.bool _,_)=some (V.bool _,_);simp[b2W, *]⟩
def O5 (b:UInt8):Bool:=decide (48<=b.toNat/\b.toNat<=57)
theorem b95 (b:UInt8):b2W (b.toNat:Nat)=O5 b:=by
 simp only[b2W,O5,leB,eqB];rw[Bool.eq_iff_iff];simp;omega
theorem c41 (b:UInt8):E env (.call 139 [.int .u8 (b.toNat:Nat)]) []=some (.ret (.bool (O5 b)) []):=by rw[<-b95];exact c41I _
theorem c48I (n:Int):E env (.call 108 [.int .u8 n]) []=some (.ret (.bool (b2W n)) []):=by
 refine U3 rfl Tryz.func108 rfl rfl ?_;refine eSG (oB 1 rfl (eSG (oA 3 rfl ?_)));refine J3 rfl rfl rfl (fun h1=>?_) (fun h1=>?_)
 ·refine oB 4 rfl ?_;exact F7 ⟨_,rfl,by show some (V.bool _,_)=some (V.bool _,_);simp[b2W, *]⟩
 refine oB 4 rfl ?_;exact F7 ⟨_,rfl,by show some (V.bool _,_)=some (V.bool _,_);simp[b2W, *]⟩
theorem c48 (b:UInt8):E env (.call 108 [.int .u8 (b.toNat:Nat)]) []=some (.ret (.bool (O5 b)) []):=by rw[<-b95];exact c48I _
def a5u (n:Int):Bool:=(leB 97 n&&leB n 122) ||(leB 65 n&&leB n 90)||eqB n 95
theorem c43I (n:Int):E env (.call 141 [.int .u8 n]) []=some (.ret (.bool (a5u n)) []):=by
 refine U3 rfl Tryz.func141 rfl rfl ?_;refine eSG (oB 1 rfl (eSG (oA 3 rfl ?_)));refine J3 rfl rfl rfl (fun h1=>?_) (fun h1=>?_)
 ·refine oA 4 rfl ?_;refine J3 rfl rfl rfl (fun h2=>?_) (fun h2=>?_)
  ·refine oB 12 rfl ?_;exact F7 ⟨_,rfl,by show some (V.bool _,_)=some (V.bool _,_);simp[a5u, *]⟩
  refine oA 3 rfl ?_;refine J3 rfl rfl rfl (fun h3=>?_) (fun h3=>?_)
  ·refine oA 5 rfl ?_;refine J3 rfl rfl rfl (fun h4=>?_) (fun h4=>?_)
   ·refine oB 4 rfl ?_;exact F7 ⟨_,rfl,by show some (V.bool _,_)=some (V.bool _,_);simp[a5u, *]⟩
   refine oB 4 rfl ?_;exact F7 ⟨_,rfl,by show some (V.bool _,_)=some (V.bool _,_);simp[a5u, *]⟩
  refine oB 9 rfl ?_;exact F7 ⟨_,rfl,by show some (V.bool _,_)=some (V.bool _,_);simp[a5u, *]⟩
 refine oA 7 rfl ?_;refine J3 rfl rfl rfl (fun h5=>?_) (fun h5=>?_)
 ·refine oA 5 rfl ?_;refine J3 rfl rfl rfl (fun h6=>?_) (fun h6=>?_)
  ·refine oB 4 rfl ?_;exact F7 ⟨_,rfl,by show some (V.bool _,_)=some (V.bool _,_);simp[a5u, *]⟩
  refine oB 4 rfl ?_;exact F7 ⟨_,rfl,by show some (V.bool _,_)=some (V.bool _,_);simp[a5u, *]⟩
 refine oB 9 rfl ?_;exact F7 ⟨_,rfl,by show some (V.bool _,_)=some (V.bool _,_);simp[a5u, *]⟩
def a1m (b:UInt8):Bool:=decide ((97<=b.toNat/\b.toNat<=122)∨(65<=b.toNat/\b.toNat<=90)∨b.toNat=95)
theorem b8A (b:UInt8):a5u (b.toNat:Nat)=a1m b:=by
 simp only[a5u,a1m,leB,eqB];rw[Bool.eq_iff_iff];simp;omega
theorem c43 (b:UInt8):E env (.call 141 [.int .u8 (b.toNat:Nat)]) []=some (.ret (.bool (a1m b)) []):=by rw[<-b8A];exact c43I _
theorem c49I (n:Int):E env (.call 109 [.int .u8 n]) []=some (.ret (.bool (a5u n)) []):=by
 refine U3 rfl Tryz.func109 rfl rfl ?_;refine eSG (oB 1 rfl (eSG (oA 3 rfl ?_)));refine J3 rfl rfl rfl (fun h1=>?_) (fun h1=>?_)
 ·refine oA 4 rfl ?_;refine J3 rfl rfl rfl (fun h2=>?_) (fun h2=>?_)
  ·refine oB 12 rfl ?_;exact F7 ⟨_,rfl,by show some (V.bool _,_)=some (V.bool _,_);simp[a5u, *]⟩
  refine oA 3 rfl ?_;refine J3 rfl rfl rfl (fun h3=>?_) (fun h3=>?_)
  ·refine oA 5 rfl ?_;refine J3 rfl rfl rfl (fun h4=>?_) (fun h4=>?_)
   ·refine oB 4 rfl ?_;exact F7 ⟨_,rfl,by show some (V.bool _,_)=some (V.bool _,_);simp[a5u, *]⟩
   refine oB 4 rfl ?_;exact F7 ⟨_,rfl,by show some (V.bool _,_)=some (V.bool _,_);simp[a5u, *]⟩
  refine oB 9 rfl ?_;exact F7 ⟨_,rfl,by show some (V.bool _,_)=some (V.bool _,_);simp[a5u, *]⟩
 refine oA 7 rfl ?_;refine J3 rfl rfl rfl (fun h5=>?_) (fun h5=>?_)
 ·refine oA 5 rfl ?_;refine J3 rfl rfl rfl (fun h6=>?_) (fun h6=>?_)
  ·refine oB 4 rfl ?_;exact F7 ⟨_,rfl,by show some (V.bool _,_)=some (V.bool _,_);simp[a5u, *]⟩
  refine oB 4 rfl ?_;exact F7 ⟨_,rfl,by show some (V.bool _,_)=some (V.bool _,_);simp[a5u, *]⟩
 refine oB 9 rfl ?_;exact F7 ⟨_,rfl,by show some (V.bool _,_)=some (V.bool _,_);simp[a5u, *]⟩
theorem c49 (b:UInt8):E env (.call 109 [.int .u8 (b.toNat:Nat)]) []=some (.ret (.bool (a1m b)) []):=by rw[<-b8A];exact c49I _
def a9r (n:Int):Bool:=eqB n 9||eqB n 10||eqB n 13||eqB n 32
theorem c61I (n:Int):E env (.call 158 [.int .u8 n]) []=some (.ret (.bool (a9r n)) []):=by
 refine U3 rfl Tryz.func158 rfl rfl ?_;refine eSG (oB 1 rfl (eSG (oA 3 rfl ?_)));refine J3 rfl rfl rfl (fun h1=>?_) (fun h1=>?_)
 ·refine oB 12 rfl ?_;exact F7 ⟨_,rfl,by show some (V.bool _,_)=some (V.bool _,_);simp[a9r, *]⟩
 refine oA 4 rfl ?_;refine J3 rfl rfl rfl (fun h2=>?_) (fun h2=>?_)
 ·refine oB 8 rfl ?_;exact F7 ⟨_,rfl,by show some (V.bool _,_)=some (V.bool _,_);simp[a9r, *]⟩
 refine oA 4 rfl ?_;refine J3 rfl rfl rfl (fun h3=>?_) (fun h3=>?_)
 ·refine oB 4 rfl ?_;exact F7 ⟨_,rfl,by show some (V.bool _,_)=some (V.bool _,_);simp[a9r, *]⟩
 refine oB 4 rfl ?_;exact F7 ⟨_,rfl,by show some (V.bool _,_)=some (V.bool _,_);simp[a9r, *]⟩
def a9Y (b:UInt8):Bool:=decide (b.toNat=9∨b.toNat=10∨b.toNat=13∨b.toNat=32)
theorem b9Z (b:UInt8):a9r (b.toNat:Nat)=a9Y b:=by
 simp only[a9r,a9Y,leB,eqB];rw[Bool.eq_iff_iff];simp;omega
theorem c61 (b:UInt8):E env (.call 158 [.int .u8 (b.toNat:Nat)]) []=some (.ret (.bool (a9Y b)) []):=by rw[<-b9Z];exact c61I _
theorem c47I (n:Int):E env (.call 107 [.int .u8 n]) []=some (.ret (.bool (a9r n)) []):=by
 refine U3 rfl Tryz.func107 rfl rfl ?_;refine eSG (oB 1 rfl (eSG (oA 3 rfl ?_)));refine J3 rfl rfl rfl (fun h1=>?_) (fun h1=>?_)
 ·refine oB 12 rfl ?_;exact F7 ⟨_,rfl,by show some (V.bool _,_)=some (V.bool _,_);simp[a9r, *]⟩
 refine oA 4 rfl ?_;refine J3 rfl rfl rfl (fun h2=>?_) (fun h2=>?_)
 ·refine oB 8 rfl ?_;exact F7 ⟨_,rfl,by show some (V.bool _,_)=some (V.bool _,_);simp[a9r, *]⟩
 refine oA 4 rfl ?_;refine J3 rfl rfl rfl (fun h3=>?_) (fun h3=>?_)
 ·refine oB 4 rfl ?_;exact F7 ⟨_,rfl,by show some (V.bool _,_)=some (V.bool _,_);simp[a9r, *]⟩
 refine oB 4 rfl ?_;exact F7 ⟨_,rfl,by show some (V.bool _,_)=some (V.bool _,_);simp[a9r, *]⟩
theorem c47 (b:UInt8):E env (.call 107 [.int .u8 (b.toNat:Nat)]) []=some (.ret (.bool (a9Y b)) []):=by rw[<-b9Z];exact c47I _
def capI (n:Int):Bool:=leB 65 n&&leB n 90
theorem c54I (n:Int):E env (.call 114 [.int .u8 n]) []=some (.ret (.bool (capI n)) []):=by
 refine U3 rfl Tryz.func114 rfl rfl ?_;refine eSG (oB 1 rfl (eSG (oA 3 rfl ?_)));refine J3 rfl rfl rfl (fun h1=>?_) (fun h1=>?_)
 ·refine oB 4 rfl ?_;exact F7 ⟨_,rfl,by show some (V.bool _,_)=some (V.bool _,_);simp[capI, *]⟩
 refine oB 4 rfl ?_;exact F7 ⟨_,rfl,by show some (V.bool _,_)=some (V.bool _,_);simp[capI, *]⟩
def capB (b:UInt8):Bool:=decide (65<=b.toNat/\b.toNat<=90)
theorem c1i (b:UInt8):capI (b.toNat:Nat)=capB b:=by
 simp only[capI,capB,leB,eqB];rw[Bool.eq_iff_iff];simp;omega
theorem c54 (b:UInt8):E env (.call 114 [.int .u8 (b.toNat:Nat)]) []=some (.ret (.bool (capB b)) []):=by rw[<-c1i];exact c54I _
def nlI (n:Int):Bool:=!eqB n 10
theorem c64I (n:Int):E env (.call 161 [.int .u8 n]) []=some (.ret (.bool (nlI n)) []):=by
 refine U3 rfl Tryz.func161 rfl rfl ?_;refine eSG (oB 1 rfl (eSG (oB 3 rfl ?_)));exact F7 ⟨_,rfl,by show some (V.bool _,_)=some (V.bool _,_);simp[nlI, *]⟩
def nlB (b:UInt8):Bool:=decide (b.toNat≠10)
theorem nlB_eq (b:UInt8):nlI (b.toNat:Nat)=nlB b:=by
 simp only[nlI,nlB,leB,eqB];rw[Bool.eq_iff_iff];simp;omega
theorem c64 (b:UInt8):E env (.call 161 [.int .u8 (b.toNat:Nat)]) []=some (.ret (.bool (nlB b)) []):=by rw[<-nlB_eq];exact c64I _
def a0Z (b:UInt8):Bool:=a1m b||O5 b
theorem c65 (b:UInt8):E env (.call 162 [.int .u8 (b.toNat:Nat)]) []=some (.ret (.bool (a0Z b)) []):=by
 refine U3 rfl Tryz.func162 rfl rfl ?_;refine eSG (oB 1 rfl (eSG (oA 1 rfl ?_)));refine L9 rfl rfl rfl rfl rfl (c43 ..) rfl ?_;refine oA 1 rfl ?_;refine J3 rfl rfl rfl (fun h1=>?_) (fun h1=>?_)
 ·refine oB 4 rfl ?_;exact F7 ⟨_,rfl,by show some (V.bool _,_)=some (V.bool _,_);simp[a0Z, *]⟩
 refine oA 1 rfl ?_;refine L9 rfl rfl rfl rfl rfl (c41 ..) rfl ?_;refine oB 2 rfl ?_;exact F7 ⟨_,rfl,by show some (V.bool _,_)=some (V.bool _,_);simp[a0Z, *]⟩
def scH (s:List UInt8)(i n:Nat)(tc:List V)(c a:Int)(e:Nat):Hp:=[(0,.row [.str s,.i i,.slice (.tag 1) n tc,.i c,.i a]),(1,.tip e n)]
def a4u (s:List UInt8)(j:Nat):Int:=((s.getD j 0).toNat:Nat)
section
variable (s:List UInt8) (i n:Nat) (tc:List V) (c a:Int) (e:Nat)
theorem c37:E env (.call 135 [.ptr 0 0]) (scH s i n tc c a e)=some (.ret (.bool (leB s.length i)) (scH s i n tc c a e)):=by
 refine U3 rfl Tryz.func135 rfl rfl ?_;refine eSG (oB 1 rfl (eSG (oB 11 rfl ?_)));exact F7 ⟨_,rfl,rfl⟩
theorem c38 (k x:Int):E env (.call 136 [.ptr 0 0,.i k,.i x]) (scH s i n tc c a e)=some (.ret (.bool false) (scH s i n tc k x e)):=by
 refine U3 rfl Tryz.func136 rfl rfl ?_;refine eSG (oB 1 rfl (eSG (oA 3 rfl ?_)));refine oD ?_;refine oB 3 rfl (eSG (oB 1 rfl ?_));exact F7 ⟨_,rfl,rfl⟩
theorem c39:E env (.call 137 [.ptr 0 0]) (scH s i n tc c a e)=some (.ret (.bool (!leB 3000 n)) (match leB 3000 n with|true=>scH s i n tc 2 i e|false=>scH s i n tc c a e)):=by
 refine U3 rfl Tryz.func137 rfl rfl ?_;refine eSG (oB 1 rfl (E8 (eSG (oB 6 rfl ?_))));refine O6 rfl (fun h1=>?_) (fun h1=>?_)
 ·refine eSG (oA 6 rfl ?_);refine oV (c38 ..) ?_;refine oB 1 rfl ?_;exact F7 ⟨_,rfl,by rw[h1];rfl⟩
 refine H6 (eSG (oB 1 rfl ?_));exact F7 ⟨_,rfl,by rw[h1];rfl⟩
theorem c62 (k:Nat)(hk:i+k<9223372036854775808):E env (.call 159 [.ptr 0 0,.i k]) (scH s i n tc c a e)=some (.ret (.int .u8 (a4u s (i+k))) (scH s i n tc c a e)):=by
 refine U3 rfl Tryz.func159 rfl rfl ?_;refine eSG (oB 1 rfl (E8 (eSG (oA 5 rfl ?_))));refine o7 rfl rfl (addN zOm) ?_;refine oB 6 rfl ?_;refine O6 rfl (fun h1=>?_) (fun h1=>?_)
 ·rw[ltN,decide_eq_true_eq]at h1;refine eSG (oA 9 rfl ?_);refine o7 rfl rfl (addN zOm) ?_;refine o7 rfl rfl (a0M (W9 zOm) rfl) ?_;refine oB 1 rfl ?_;exact F7 ⟨_,rfl,rfl⟩
 rw[ltN,decide_eq_false_iff_not]at h1;have:a4u s (i+k)=0:=by simp only[a4u];rw[List.getD_eq_getElem?_getD,List.getElem?_eq_none zOm];rfl
 rw[this];refine H6 (eSG (oB 1 rfl ?_));exact F7 ⟨_,rfl,rfl⟩
theorem c46 (k:Int)(t:List UInt8)(f:Nat)(hf:f<=i)(hi:i<9223372036854775808)(he:e=0∨e=4)(hn:n<=100000)(htc:tc.length=n*4) :
  E env (.call 144 [.ptr 0 0,.i k,.str t,.i f]) (scH s i n tc c a e)=some (.ret (.tuple []) (scH s i (n+1) (tc++[.i k,.str t,.i f,.i ((i-f:Nat):Int)]) c a 4)):=by
 refine U3 rfl Tryz.func144 rfl rfl ?_;refine A7 (oA 14 rfl ?_);refine o7 rfl rfl (subN zOm zOm) ?_;refine oD ?_;refine oA 1 rfl ?_;refine a3I rfl rfl rfl rfl rfl rfl rfl rfl rfl rfl rfl (a9G (a2d rfl) rfl) rfl rfl he rfl htc.symm (by show(n+1)*41<=_;omega) rfl rfl rfl ?_;refine oB 3 rfl ?_;exact⟨_,rfl,rfl⟩
end
variable {p:UInt8->Bool}
def Z7 (p:UInt8->Bool)(s:List UInt8)(i:Nat):Nat:=i+((s.drop i).takeWhile p).length
theorem a8J {s:List UInt8}{i:Nat}(h:i<s.length):s.drop i=s.getD i 0::s.drop (i+1):=by
 rw[List.drop_eq_getElem_cons h];simp[h]
theorem b5Q {s:List UInt8}{i:Nat}(h:s.length<=i):Z7 p s i=i:=by simp[Z7,List.drop_eq_nil_of_le h]
theorem b7N {s:List UInt8}{i:Nat}(h:i<s.length)(hp:p (s.getD i 0)=false):Z7 p s i=i:=by
 simp only[Z7,a8J h,List.takeWhile_cons,hp];rfl
theorem b1C {s:List UInt8}{i:Nat}(h:i<s.length)(hp:p (s.getD i 0)=true):Z7 p s i=Z7 p s (i+1):=by
 simp only[Z7,a8J h,List.takeWhile_cons,hp,if_true,List.length_cons];omega
theorem a7m {s:List UInt8}{i:Nat}(h:i<=s.length):Z7 p s i<=s.length:=by
 have h1:=List.takeWhile_sublist p (l:=s.drop i);have:=h1.length_le;simp only[Z7,List.length_drop]at this ⊢;omega
theorem c2n {s:List UInt8}{i:Nat}:i<=Z7 p s i:=by simp only[Z7];omega
section
variable (s:List UInt8) (i n:Nat) (tc:List V) (c a:Int) (e:Nat)
theorem c63 (g:Nat)(p:UInt8->Bool)(hq:env.quiet g=true)(hp:∀b:UInt8,E env (.call g [.int .u8 (b.toNat:Nat)]) []=some (.ret (.bool (p b)) []))(hi:i<=s.length)(hs:s.length<4611686018427387904) :
  E env (.call 160 [.ptr 0 0,.func (.func g) [] []]) (scH s i n tc c a e)=some (.ret (.str ((s.take (Z7 p s i)).drop i)) (scH s (Z7 p s i) n tc c a e)):=by
 obtain⟨r,hr⟩:∃r,r=Z7 p s i:=⟨_,rfl⟩
 rw[<-hr];refine U3 rfl Tryz.func160 rfl rfl ?_;refine eSG (oB 1 rfl (eSG (oB 5 rfl (E8 ?_))));refine M8 ?_;refine a4M rfl ?_;refine a6N (fun _=>[(0,.ptr 0 0),(1,.func (.func g) [] []),(5,.i i)]) (fun j=>scH s j n tc c a e) (fun j=>i<=j/\j<=s.length/\r=Z7 p s j) (fun j=>s.length-j) i ⟨Nat.le_refl _,hi,hr⟩ ?_;intro j ⟨hij,hj,hr⟩ ih;refine E8 (eSG (oA 1 rfl ?_));refine oV (c37 ..) ?_;refine oA 2 rfl ?_;refine J3 rfl rfl rfl (fun h1=>?_) (fun h1=>?_)
 ·replace h1:j<s.length:=by simpa [leN_]using h1
  refine oA 9 rfl ?_;refine o7 rfl rfl (a0M (W9 zOm) rfl) ?_;refine c0B rfl rfl rfl hq rfl rfl (hp _) rfl ?_;refine oB 1 rfl ?_;refine O6 rfl (fun h2=>?_) (fun h2=>?_)
  ·refine H6 ?_;refine M8 ?_;refine A7 (oA 4 rfl ?_);refine o7 rfl rfl (add1 zOm) ?_;refine oB 3 rfl ?_;exact⟨_,_,rfl,ih (j+1) zOm ⟨zOm,zOm,by rw[hr,b1C h1 h2]⟩⟩
  rw[b7N h1 h2]at hr;subst hr;refine a2k ?_;refine eSG (oA 9 rfl ?_);refine o7 rfl rfl (a0M (a6X zOm zOm) rfl) ?_;refine oB 1 rfl ?_;exact F7 ⟨_,rfl,rfl⟩
 replace h1:s.length<=j:=by simpa [leN_]using h1
 rw[b5Q h1]at hr;subst hr;refine oB 12 rfl ?_;refine a0r rfl rfl ?_;refine a2k ?_;refine eSG (oA 9 rfl ?_);refine o7 rfl rfl (a0M (a6X zOm zOm) rfl) ?_;refine oB 1 rfl ?_;exact F7 ⟨_,rfl,rfl⟩
end
def a9x:Bool->List UInt8->Nat
 | _,[]=>0
 | true,b::r=>a9x (nlB b) r+1
 | false,b::r=>match a9Y b with
  | true=>a9x false r+1
  | false=>match decide (b.toNat=47)&&decide ((r.headD 0).toNat=47)with
   | true=>a9x true r+1
   | false=>0
def a0K (s:List UInt8)(i:Nat):Nat:=i+a9x false (s.drop i)
theorem b8q (s:List UInt8)(i:Nat):(s.drop i).headD 0=s.getD i 0:=by
 rcases Nat.lt_or_ge i s.length with h|h
 ·rw[a8J h];rfl
 rw[List.drop_eq_nil_of_le h,List.getD_eq_getElem?_getD,List.getElem?_eq_none h];rfl
theorem c0T {s:List UInt8}{i:Nat}(h:s.length<=i):a0K s i=i:=by simp[a0K,List.drop_eq_nil_of_le h,a9x]
theorem b7c {s:List UInt8}{i:Nat}(h:i<s.length)(hb:a9Y (s.getD i 0)=true):a0K s i=a0K s (i+1):=by
 simp only[a0K,a8J h,a9x,hb];omega
theorem b9u {s:List UInt8}{i:Nat}(h:i<s.length)(hb:a9Y (s.getD i 0)=false)(hc:(s.getD i 0).toNat≠47∨(s.getD (i+1) 0).toNat≠47):a0K s i=i:=by
 have:(decide ((s.getD i 0).toNat=47)&&decide (((s.drop (i+1)).headD 0).toNat=47))=false:=by
  rw[b8q,Bool.and_eq_false_iff,decide_eq_false_iff_not,decide_eq_false_iff_not];exact hc
 simp only[a0K,a8J h,a9x,hb,this];rfl
theorem b9v:∀l:List UInt8,a9x true l =(l.takeWhile nlB).length+a9x false (l.drop (l.takeWhile nlB).length)
 | []=>rfl
 | b::r=>by
  cases hb:nlB b with
  | true =>
   simp only[a9x,hb,List.takeWhile_cons,if_true,List.length_cons,List.drop_succ_cons];rw[b9v r];omega
  | false =>
   have h2:a9Y b=true:=by simp only[nlB,a9Y,decide_eq_false_iff_not,decide_eq_true_eq]at hb ⊢;omega
   simp only[a9x,hb,h2,List.takeWhile_cons,Bool.false_eq_true,if_false,List.length_nil,List.drop_zero];omega
theorem c0S {s:List UInt8}{i:Nat}(h:i<s.length)(h1:(s.getD i 0).toNat=47)(h2:(s.getD (i+1) 0).toNat=47):a0K s i=a0K s (Z7 nlB s i):=by
 have hb:a9Y (s.getD i 0)=false:=by simp only[a9Y,decide_eq_false_iff_not];omega
 have hn:nlB (s.getD i 0)=true:=by simp only[nlB,decide_eq_true_eq];omega
 have hc:(decide ((s.getD i 0).toNat=47)&&decide (((s.drop (i+1)).headD 0).toNat=47))=true:=by rw[b8q,h1,h2];rfl
 rw[b1C h hn];simp only[a0K,a8J h,a9x,hb,hc,b9v,Z7,List.drop_drop];omega
theorem a8B {p:UInt8->Bool}{s:List UInt8}{i:Nat}(h:i<s.length)(hp:p (s.getD i 0)=true):i<Z7 p s i:=by
 rw[b1C h hp];have:=c2n (p:=p) (s:=s) (i:=i+1);omega
section
variable (s:List UInt8) (i n:Nat) (tc:List V) (c a:Int) (e:Nat)
theorem c36 (hi:i<=s.length)(hs:s.length<4611686018427387904):E env (.call 134 [.ptr 0 0]) (scH s i n tc c a e)=some (.ret (.tuple []) (scH s (a0K s i) n tc c a e)):=by
 obtain⟨r,hr⟩:∃r,r=a0K s i:=⟨_,rfl⟩
 rw[<-hr];refine U3 rfl Tryz.func134 rfl rfl ?_;refine M8 ?_;refine a4M rfl ?_;refine a6N (fun _=>[(0,.ptr 0 0)]) (fun j=>scH s j n tc c a e) (fun j=>j<=s.length/\r=a0K s j) (fun j=>s.length-j) i ⟨hi,hr⟩ ?_;intro j ⟨hj,hr⟩ ih;refine E8 (eSG (oA 1 rfl ?_));refine oV (c37 ..) ?_;refine oB 1 rfl ?_;refine O6 rfl (fun h1=>?_) (fun h1=>?_)
 ·replace h1:j<s.length:=by simpa [leN_]using h1
  refine H6 ?_;refine M8 ?_;refine M8 ?_;refine eSG (oA 8 rfl ?_);refine o7 rfl rfl (a0M (W9 zOm) rfl) ?_;refine L9 rfl rfl rfl rfl rfl (c61 ..) rfl ?_;refine oB 1 rfl ?_;refine O6 rfl (fun h2=>?_) (fun h2=>?_)
  ·refine A7 (oA 4 rfl ?_);refine o7 rfl rfl (add1 zOm) ?_;refine oB 3 rfl ?_;exact⟨_,_,rfl,ih (j+1) zOm ⟨zOm,by rw[hr,b7c h1 h2]⟩⟩
  refine eSG (oA 8 rfl ?_);refine o7 rfl rfl (a0M (W9 zOm) rfl) ?_;refine oA 2 rfl ?_;refine J3 rfl rfl rfl (fun h3=>?_) (fun h3=>?_)
  ·simp only[eqB,a4u,beq_iff_eq,beq_eq_false_iff_ne,ne_eq,Int.toNat_natCast]at h3;refine oA 1 rfl ?_;refine oV (c62 s j n tc c a e 1 zOm) ?_;refine oB 3 rfl ?_;refine O6 rfl (fun h4=>?_) (fun h4=>?_)
   ·simp only[eqB,a4u,beq_iff_eq,beq_eq_false_iff_ne,ne_eq,Int.toNat_natCast]at h4;refine A7 (oA 1 rfl ?_);refine oV (c63 s j n tc c a e 161 nlB rfl c64 hj hs) ?_;refine I4 ?_;exact⟨_,_,rfl,ih (Z7 nlB s j) (by have:=a8B (p:=nlB) h1 (by simp only[nlB,decide_eq_true_eq];omega);omega) ⟨a7m hj,by rw[hr,c0S h1 zOm zOm]⟩⟩
   simp only[eqB,a4u,beq_iff_eq,beq_eq_false_iff_ne,ne_eq,Int.toNat_natCast]at h4;rw[b9u h1 h2 (.inr zOm)]at hr;subst hr;exact F7 ⟨_,rfl,rfl⟩
  simp only[eqB,a4u,beq_iff_eq,beq_eq_false_iff_ne,ne_eq,Int.toNat_natCast]at h3;rw[b9u h1 h2 (.inl zOm)]at hr;subst hr;refine oB 5 rfl ?_;refine a0r rfl rfl ?_;exact F7 ⟨_,rfl,rfl⟩
 replace h1:s.length<=j:=by simpa [leN_]using h1
 rw[c0T h1]at hr;subst hr;refine a2k ?_;exact⟨_,rfl,rfl⟩
end
def a2N:List UInt8:=[57,50,50,51,51,55,50,48,51,54,56,53,52,55,55,53,56,48,55]
def a0q (w:List UInt8)(nx:UInt8):Bool:=(ltB 1 w.length&&eqB (w.getD 0 0).toNat 48)||ltB 19 w.length ||(eqB w.length 19 && !(ltS w a2N||eqS w a2N))||a1m nx
def b44 (k:Int)(w:List UInt8)(i l:Nat):List V:=[.i k,.str w,.i i,.i l]
section
variable (s:List UInt8) (i n:Nat) (tc:List V) (c a:Int) (e:Nat)
theorem c42 (hi:i<=s.length)(hs:s.length<4611686018427387904)(he:e=0∨e=4)(hn:n<=100000)(htc:tc.length=n*4)(r:Nat)(hr:Z7 O5 s i=r)(w:List UInt8)(hw:(s.take r).drop i=w)(b:Bool)(hb:a0q w (s.getD r 0)=b) :
  E env (.call 140 [.ptr 0 0]) (scH s i n tc c a e)=some (.ret (.bool (!b)) (match b with|true=>scH s r n tc 13 i e|false=>scH s r (n+1) (tc++b44 3 w i (r-i)) c a 4)):=by
 have h63:=c63 s i n tc c a e 139 O5 rfl c41 hi hs;rw[hr,hw]at h63;have hri:i<=r:=by rw[<-hr];exact c2n
 have hrl:r<=s.length:=by rw[<-hr];exact a7m hi
 refine U3 rfl Tryz.func140 rfl rfl ?_;refine eSG (oB 1 rfl (eSG (oB 6 rfl (eSG (oA 3 rfl ?_)))));refine b30 rfl rfl rfl (a7I rfl rfl h63 rfl rfl rfl) ?_;refine oB 1 rfl (E8 (eSG (oA 4 rfl ?_)));refine J3 rfl rfl rfl (fun h1=>?_) (fun h1=>?_)
 ·refine oA 1 rfl ?_;refine o7 rfl rfl (a0M (W9 (i:=0) (by simp only[ltB,decide_eq_true_eq]at h1;omega)) rfl) ?_;refine oA 3 rfl ?_;refine J3 rfl rfl rfl (fun h2=>?_) (fun h2=>?_)
  ·refine oB 20 rfl ?_;refine Y9 rfl rfl ?_;refine eSG (oA 2 rfl ?_);refine oV (c38 ..) ?_;refine oB 1 rfl ?_;obtain rfl:b=true:=by rw[<-hb];clear hb h63;(try simp only[Int.toNat_zero,Nat.add_zero]at *);simp only[*,a0q,a2N,zT]
   exact F7 ⟨_,rfl,rfl⟩
  refine oA 5 rfl ?_;refine J3 rfl rfl rfl (fun h3=>?_) (fun h3=>?_)
  ·refine oB 15 rfl ?_;refine Y9 rfl rfl ?_;refine eSG (oA 2 rfl ?_);refine oV (c38 ..) ?_;refine oB 1 rfl ?_;obtain rfl:b=true:=by rw[<-hb];clear hb h63;(try simp only[Int.toNat_zero,Nat.add_zero]at *);simp only[*,a0q,a2N,zT]
   exact F7 ⟨_,rfl,rfl⟩
  refine oA 4 rfl ?_;refine J3 rfl rfl rfl (fun h4=>?_) (fun h4=>?_)
  ·refine oA 5 rfl ?_;refine J3 rfl rfl rfl (fun h5=>?_) (fun h5=>?_)
   ·refine oB 6 rfl ?_;refine Y9 rfl rfl ?_;refine eSG (oA 2 rfl ?_);refine oV (c38 ..) ?_;refine oB 1 rfl ?_;obtain rfl:b=true:=by rw[<-hb];clear hb h63;(try simp only[Int.toNat_zero,Nat.add_zero]at *);simp only[*,a0q,a2N,zT]
    exact F7 ⟨_,rfl,rfl⟩
   refine oA 3 rfl ?_;refine oV (c62 s r n tc c a e 0 zOm) ?_;refine L9 rfl rfl rfl rfl rfl (c43 ..) rfl ?_;refine oB 1 rfl ?_;refine O6 rfl (fun h6=>?_) (fun h6=>?_)
   ·refine eSG (oA 2 rfl ?_);refine oV (c38 ..) ?_;refine oB 1 rfl ?_;obtain rfl:b=true:=by rw[<-hb];clear hb h63;(try simp only[Int.toNat_zero,Nat.add_zero]at *);simp only[*,a0q,a2N,zT]
    exact F7 ⟨_,rfl,rfl⟩
   refine H6 (eSG (oA 3 rfl ?_));refine oV (c46 s r n tc c a e 3 w i hri zOm he hn htc) ?_;refine I4 (eSG (oB 1 rfl ?_));obtain rfl:b=false:=by rw[<-hb];clear hb h63;(try simp only[Int.toNat_zero,Nat.add_zero]at *);simp only[*,a0q,a2N,zT]
   exact F7 ⟨_,rfl,rfl⟩
  refine oA 8 rfl ?_;refine oV (c62 s r n tc c a e 0 zOm) ?_;refine L9 rfl rfl rfl rfl rfl (c43 ..) rfl ?_;refine oB 1 rfl ?_;refine O6 rfl (fun h7=>?_) (fun h7=>?_)
  ·refine eSG (oA 2 rfl ?_);refine oV (c38 ..) ?_;refine oB 1 rfl ?_;obtain rfl:b=true:=by rw[<-hb];clear hb h63;(try simp only[Int.toNat_zero,Nat.add_zero]at *);simp only[*,a0q,a2N,zT]
   exact F7 ⟨_,rfl,rfl⟩
  refine H6 (eSG (oA 3 rfl ?_));refine oV (c46 s r n tc c a e 3 w i hri zOm he hn htc) ?_;refine I4 (eSG (oB 1 rfl ?_));obtain rfl:b=false:=by rw[<-hb];clear hb h63;(try simp only[Int.toNat_zero,Nat.add_zero]at *);simp only[*,a0q,a2N,zT]
  exact F7 ⟨_,rfl,rfl⟩
 refine oA 10 rfl ?_;refine J3 rfl rfl rfl (fun h8=>?_) (fun h8=>?_)
 ·refine oB 15 rfl ?_;refine Y9 rfl rfl ?_;refine eSG (oA 2 rfl ?_);refine oV (c38 ..) ?_;refine oB 1 rfl ?_;obtain rfl:b=true:=by rw[<-hb];clear hb h63;(try simp only[Int.toNat_zero,Nat.add_zero]at *);simp only[*,a0q,a2N,zT]
  exact F7 ⟨_,rfl,rfl⟩
 refine oA 4 rfl ?_;refine J3 rfl rfl rfl (fun h9=>?_) (fun h9=>?_)
 ·refine oA 5 rfl ?_;refine J3 rfl rfl rfl (fun h10=>?_) (fun h10=>?_)
  ·refine oB 6 rfl ?_;refine Y9 rfl rfl ?_;refine eSG (oA 2 rfl ?_);refine oV (c38 ..) ?_;refine oB 1 rfl ?_;obtain rfl:b=true:=by rw[<-hb];clear hb h63;(try simp only[Int.toNat_zero,Nat.add_zero]at *);simp only[*,a0q,a2N,zT]
   exact F7 ⟨_,rfl,rfl⟩
  refine oA 3 rfl ?_;refine oV (c62 s r n tc c a e 0 zOm) ?_;refine L9 rfl rfl rfl rfl rfl (c43 ..) rfl ?_;refine oB 1 rfl ?_;refine O6 rfl (fun h11=>?_) (fun h11=>?_)
  ·refine eSG (oA 2 rfl ?_);refine oV (c38 ..) ?_;refine oB 1 rfl ?_;obtain rfl:b=true:=by rw[<-hb];clear hb h63;(try simp only[Int.toNat_zero,Nat.add_zero]at *);simp only[*,a0q,a2N,zT]
   exact F7 ⟨_,rfl,rfl⟩
  refine H6 (eSG (oA 3 rfl ?_));refine oV (c46 s r n tc c a e 3 w i hri zOm he hn htc) ?_;refine I4 (eSG (oB 1 rfl ?_));obtain rfl:b=false:=by rw[<-hb];clear hb h63;(try simp only[Int.toNat_zero,Nat.add_zero]at *);simp only[*,a0q,a2N,zT]
  exact F7 ⟨_,rfl,rfl⟩
 refine oA 8 rfl ?_;refine oV (c62 s r n tc c a e 0 zOm) ?_;refine L9 rfl rfl rfl rfl rfl (c43 ..) rfl ?_;refine oB 1 rfl ?_;refine O6 rfl (fun h12=>?_) (fun h12=>?_)
 ·refine eSG (oA 2 rfl ?_);refine oV (c38 ..) ?_;refine oB 1 rfl ?_;obtain rfl:b=true:=by rw[<-hb];clear hb h63;(try simp only[Int.toNat_zero,Nat.add_zero]at *);simp only[*,a0q,a2N,zT]
  exact F7 ⟨_,rfl,rfl⟩
 refine H6 (eSG (oA 3 rfl ?_));refine oV (c46 s r n tc c a e 3 w i hri zOm he hn htc) ?_;refine I4 (eSG (oB 1 rfl ?_));obtain rfl:b=false:=by rw[<-hb];clear hb h63;(try simp only[Int.toNat_zero,Nat.add_zero]at *);simp only[*,a0q,a2N,zT]
 exact F7 ⟨_,rfl,rfl⟩
end
variable {l:List (List UInt8)} {x:List UInt8} {i:Nat}
theorem b7G:∀a:List UInt8,ltS a a=false:=by
 unfold ltS;intro a;induction a with
 | nil=>rfl
 | cons x a ih=>simp[Op.bytesLess,ih]
theorem c7x:∀{a b:List UInt8},ltS a b=false->a≠b->ltS b a=true:=by
 unfold ltS;intro a;induction a with
 | nil =>
  intro b h hne;cases b with
  | nil=>exact absurd rfl hne
  | cons y b=>cases h
 | cons x a ih =>
  intro b h hne;cases b with
  | nil=>rfl
  | cons y b =>
   simp only[Op.bytesLess,Bool.or_eq_false_iff,Bool.and_eq_false_iff,decide_eq_false_iff_not,Bool.or_eq_true,Bool.and_eq_true,decide_eq_true_eq,beq_iff_eq,beq_eq_false_iff_ne]at h ⊢;obtain⟨h1,h2⟩:=h;by_cases hxy:x=y
   ·subst hxy;refine .inr ⟨rfl,ih ?_ (fun e=>hne (by rw[e]))⟩;rcases h2 with h2|h2
    ·exact absurd rfl h2
    exact h2
   refine .inl ?_;rw[UInt8.lt_iff_toNat_lt]at h1 ⊢;have:x.toNat≠y.toNat:=fun e=>hxy (UInt8.toNat_inj.1 e);omega
theorem b3Y:∀{a b c:List UInt8},ltS a b=true->ltS b c=true->ltS a c=true:=by
 unfold ltS;intro a;induction a with
 | nil =>
  intro b c h g;cases c with
  | nil=>cases b<;>cases g
  | cons z c=>rfl
 | cons x a ih =>
  intro b c h g;cases b with
  | nil=>cases h
  | cons y b =>
   cases c with
   | nil=>cases g
   | cons z c =>
    simp only[Op.bytesLess,Bool.or_eq_true,Bool.and_eq_true,decide_eq_true_eq,beq_iff_eq]at h g ⊢;rw[UInt8.lt_iff_toNat_lt]at *;rcases h with h |⟨rfl,h⟩<;>rcases g with g |⟨rfl,g⟩
    ·exact .inl zOm
    ·exact .inl h
    ·exact .inl g
    exact .inr ⟨rfl,ih h g⟩
def b5Y:List (List UInt8)->Bool | []=>true|a::r=>r.all (fun b=>ltS a b)&&b5Y r
theorem b0h:∀{l:List (List UInt8)},b5Y l=true -> ∀i j,i<j->j<l.length->ltS (l.getD i []) (l.getD j [])=true
 | [],_,i,j,_,hj=>by simp at hj
 | a::r,h,i,j,hij,hj=>by
  simp only[b5Y,Bool.and_eq_true,List.all_eq_true]at h;cases j with
  | zero=>omega
  | succ j =>
   have hj':j<r.length:=by simpa using hj
   cases i with
   | zero =>
    have:(a::r).getD (j+1) []=r[j]:=by simp[hj']
    rw[this];exact h.1 _ (List.getElem_mem hj')
   | succ i =>
    have:=b0h h.2 i j zOm hj';simpa using this
def b4M (l:List (List UInt8))(x:List UInt8):Bool:=l.any fun y=>decide (y=x)
theorem c7l (hi:i<l.length)(h:eqS (l.getD i []) x=true):b4M l x=true:=by
 simp only[eqS,beq_iff_eq]at h;simp only[b4M,List.any_eq_true,decide_eq_true_eq];refine⟨l[i],List.getElem_mem hi,?_⟩;simpa [hi]using h
theorem c7k (h:∀i,i<l.length->l.getD i []≠x):b4M l x=false:=by
 simp only[b4M,List.any_eq_false,decide_eq_true_eq];intro y hy;obtain⟨i,hi,rfl⟩:=List.mem_iff_getElem.1 hy;have:=h i hi;simpa [hi]using this
theorem ld9 (h:i<l.length):a6s env.T 9 (.ptr 0 (0+(i:Int).toNat*1)) [(0,.row (l.map V.str))]=some (.str (l.getD i [])):=by
 show(l.map V.str)[0+(i:Int).toNat*1]? = _;simp[h]
def a4A:List (List UInt8):=[[97,110,121],[99,97,115,101],[99,97,116,99,104],[99,108,97,115,115],[99,111,110,115,117,109,101],[100,101,102,97,117,108,116],[100,101,102,101,114],[100,101,105,110,105,116],[100,111],[101,108,115,101],[101,110,117,109],[101,120,116,101,110,100],[102,97,108,115,101],[102,114,111,122,101,110],[102,117,110,99],[105,102],[105,110],[105,110,100,105,114,101,99,116],[105,110,111,117,116],[108,101,116],[109,97,116,99,104],[109,111,118,101,111,110,108,121],[112,114,111,116,111,99,111,108],[114,101,116,117,114,110],[115,116,114,117,99,116],[116,104,114,111,119],[116,104,114,111,119,115],[116,114,117,101],[116,121,112,101],[118,97,114],[119,104,101,114,101],[119,104,105,108,101]]
def a3P:List (List UInt8):=[[33],[33,61],[37],[38],[38,38],[40],[41],[42],[43],[44],[45],[45,62],[46],[47],[58],[59],[60],[60,61],[61],[61,61],[62],[62,61],[91],[93],[123],[124,124],[125]]
theorem b4E:b5Y a4A=true:=zKr
theorem c66w (x:List UInt8)(r:Bool)(hr:b4M a4A x=r) :
  E env (.call 164 [.rslice 0 0 32 false,.str x]) [(0,.row (a4A.map V.str))]=some (.ret (.bool r) [(0,.row (a4A.map V.str))]):=by
 refine U3 rfl Tryz.func164 rfl rfl ?_;refine eSG (oB 1 rfl (eSG (oB 4 rfl (E8 ?_))));refine M8 ?_;refine a4M rfl ?_;refine a6N (fun p:Nat×Nat=>[(0,.rslice 0 0 32 false),(1,.str x),(5,.i p.1),(6,.i p.2)]) (fun _=>[(0,.row (a4A.map V.str))]) (fun p=>p.1<=p.2/\p.2<=32/\(∀k,k<p.1->ltS (a4A.getD k []) x=true) /\ ∀k,p.2<=k->k<32->ltS x (a4A.getD k [])=true) (fun p=>p.2-p.1) (0,32) ⟨Nat.zero_le _,Nat.le_refl _,fun k hk=>zOm,fun k h1 h2=>zOm⟩ ?_;intro⟨lo,hi⟩ ⟨hlo,hhi,hL,hR⟩ ih;simp only at hlo hhi hL hR;refine E8 (eSG (oB 3 rfl ?_));refine O6 rfl (fun h1=>?_) (fun h1=>?_)
 ·replace h1:lo<hi:=by simpa [ltN]using h1
  refine H6 ?_;refine M8 ?_;refine eSG (oA 2 rfl ?_);refine o7 rfl rfl (addN zOm) ?_;refine o7 rfl rfl (half zOm) ?_;refine oB 1 rfl ?_;refine M8 ?_;refine eSG (oA 2 rfl ?_);refine o7 rfl rfl (a0M (W9 zOm) rfl) ?_;refine a0P rfl rfl rfl (ld9 (l:=a4A) (by show _<32;omega)) ?_;refine oB 3 rfl ?_;refine O6 rfl (fun h2=>?_) (fun h2=>?_)
  ·obtain rfl:r=true:=by rw[<-hr];exact c7l (l:=a4A) (by show _<32;omega) h2
   refine eSG (oB 1 rfl ?_);exact F7 ⟨_,rfl,rfl⟩
  have hne:a4A.getD ((lo+hi)/2) []≠x:=fun e=>by simp only[eqS,e,beq_self_eq_true]at h2;cases h2
  refine eSG (oA 2 rfl ?_);refine o7 rfl rfl (a0M (W9 zOm) rfl) ?_;refine a0P rfl rfl rfl (ld9 (l:=a4A) (by show _<32;omega)) ?_;refine oB 3 rfl ?_;refine O6 rfl (fun h3=>?_) (fun h3=>?_)
  ·have hL2:∀k,k<(lo+hi)/2+1->ltS (a4A.getD k []) x=true:=fun k hk=>by
    rcases Nat.lt_or_ge k ((lo+hi)/2)with h|h
    ·exact b3Y (b0h (l:=a4A) b4E _ _ h (by show _<32;omega)) h3
    obtain rfl:k =(lo+hi)/2:=by omega
    exact h3
   refine A7 (oA 1 rfl ?_);refine o7 rfl rfl (add1 zOm) ?_;refine oB 1 rfl ?_;exact⟨_,_,rfl,ih ((lo+hi)/2+1,hi) (by show hi-((lo+hi)/2+1)<hi-lo;omega) ⟨by show(lo+hi)/2+1<=hi;omega,hhi,hL2,hR⟩⟩
  have hR2:∀k,(lo+hi)/2<=k->k<32->ltS x (a4A.getD k [])=true:=fun k hk hk2=>by
   have h4:=c7x h3 hne;rcases Nat.lt_or_ge ((lo+hi)/2) k with h|h
   ·exact b3Y h4 (b0h (l:=a4A) b4E _ _ h (by exact hk2))
   obtain rfl:k =(lo+hi)/2:=by omega
   exact h4
  refine A7 (oB 2 rfl ?_);exact⟨_,_,rfl,ih (lo,(lo+hi)/2) (by show(lo+hi)/2-lo<hi-lo;omega) ⟨by show lo <=(lo+hi)/2;omega,by show(lo+hi)/2<=32;omega,hL,hR2⟩⟩
 replace h1:¬lo<hi:=by simpa [ltN]using h1
 obtain rfl:r=false:=by
  rw[<-hr];refine c7k (l:=a4A) fun k hk e=>?_;rcases Nat.lt_or_ge k lo with h|h
  ·have:=hL k h;rw[e,b7G]at this;cases this
  have:=hR k zOm (by exact hk);rw[e,b7G]at this;cases this
 refine a2k ?_;refine eSG (oB 1 rfl ?_);exact F7 ⟨_,rfl,rfl⟩
theorem b4D:b5Y a3P=true:=zKr
theorem c66s (x:List UInt8)(r:Bool)(hr:b4M a3P x=r) :
  E env (.call 164 [.rslice 0 0 27 false,.str x]) [(0,.row (a3P.map V.str))]=some (.ret (.bool r) [(0,.row (a3P.map V.str))]):=by
 refine U3 rfl Tryz.func164 rfl rfl ?_;refine eSG (oB 1 rfl (eSG (oB 4 rfl (E8 ?_))));refine M8 ?_;refine a4M rfl ?_;refine a6N (fun p:Nat×Nat=>[(0,.rslice 0 0 27 false),(1,.str x),(5,.i p.1),(6,.i p.2)]) (fun _=>[(0,.row (a3P.map V.str))]) (fun p=>p.1<=p.2/\p.2<=27/\(∀k,k<p.1->ltS (a3P.getD k []) x=true) /\ ∀k,p.2<=k->k<27->ltS x (a3P.getD k [])=true) (fun p=>p.2-p.1) (0,27) ⟨Nat.zero_le _,Nat.le_refl _,fun k hk=>zOm,fun k h1 h2=>zOm⟩ ?_;intro⟨lo,hi⟩ ⟨hlo,hhi,hL,hR⟩ ih;simp only at hlo hhi hL hR;refine E8 (eSG (oB 3 rfl ?_));refine O6 rfl (fun h1=>?_) (fun h1=>?_)
 ·replace h1:lo<hi:=by simpa [ltN]using h1
  refine H6 ?_;refine M8 ?_;refine eSG (oA 2 rfl ?_);refine o7 rfl rfl (addN zOm) ?_;refine o7 rfl rfl (half zOm) ?_;refine oB 1 rfl ?_;refine M8 ?_;refine eSG (oA 2 rfl ?_);refine o7 rfl rfl (a0M (W9 zOm) rfl) ?_;refine a0P rfl rfl rfl (ld9 (l:=a3P) (by show _<27;omega)) ?_;refine oB 3 rfl ?_;refine O6 rfl (fun h2=>?_) (fun h2=>?_)
  ·obtain rfl:r=true:=by rw[<-hr];exact c7l (l:=a3P) (by show _<27;omega) h2
   refine eSG (oB 1 rfl ?_);exact F7 ⟨_,rfl,rfl⟩
  have hne:a3P.getD ((lo+hi)/2) []≠x:=fun e=>by simp only[eqS,e,beq_self_eq_true]at h2;cases h2
  refine eSG (oA 2 rfl ?_);refine o7 rfl rfl (a0M (W9 zOm) rfl) ?_;refine a0P rfl rfl rfl (ld9 (l:=a3P) (by show _<27;omega)) ?_;refine oB 3 rfl ?_;refine O6 rfl (fun h3=>?_) (fun h3=>?_)
  ·have hL2:∀k,k<(lo+hi)/2+1->ltS (a3P.getD k []) x=true:=fun k hk=>by
    rcases Nat.lt_or_ge k ((lo+hi)/2)with h|h
    ·exact b3Y (b0h (l:=a3P) b4D _ _ h (by show _<27;omega)) h3
    obtain rfl:k =(lo+hi)/2:=by omega
    exact h3
   refine A7 (oA 1 rfl ?_);refine o7 rfl rfl (add1 zOm) ?_;refine oB 1 rfl ?_;exact⟨_,_,rfl,ih ((lo+hi)/2+1,hi) (by show hi-((lo+hi)/2+1)<hi-lo;omega) ⟨by show(lo+hi)/2+1<=hi;omega,hhi,hL2,hR⟩⟩
  have hR2:∀k,(lo+hi)/2<=k->k<27->ltS x (a3P.getD k [])=true:=fun k hk hk2=>by
   have h4:=c7x h3 hne;rcases Nat.lt_or_ge ((lo+hi)/2) k with h|h
   ·exact b3Y h4 (b0h (l:=a3P) b4D _ _ h (by exact hk2))
   obtain rfl:k =(lo+hi)/2:=by omega
   exact h4
  refine A7 (oB 2 rfl ?_);exact⟨_,_,rfl,ih (lo,(lo+hi)/2) (by show(lo+hi)/2-lo<hi-lo;omega) ⟨by show lo <=(lo+hi)/2;omega,by show(lo+hi)/2<=27;omega,hL,hR2⟩⟩
 replace h1:¬lo<hi:=by simpa [ltN]using h1
 obtain rfl:r=false:=by
  rw[<-hr];refine c7k (l:=a3P) fun k hk e=>?_;rcases Nat.lt_or_ge k lo with h|h
  ·have:=hL k h;rw[e,b7G]at this;cases this
  have:=hR k zOm (by exact hk);rw[e,b7G]at this;cases this
 refine a2k ?_;refine eSG (oB 1 rfl ?_);exact F7 ⟨_,rfl,rfl⟩
end Go.Proofs.YtimgnjbjbdgmaaaGreatDoor.Sc
