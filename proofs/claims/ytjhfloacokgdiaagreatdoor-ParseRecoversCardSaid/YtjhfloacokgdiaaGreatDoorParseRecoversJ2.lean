/- Texts of ParseRecovers, joined. -/
import Derived.Test.YtjhfloacokgdiaaGreatDoorParseRecoversJ1
import Derived.Below
set_option maxRecDepth 100000
set_option maxHeartbeats 20000000
set_option linter.all false
namespace Go.Vm
variable {arr:Array Value} {fr':Fr} {H' H2:Hp} {ns:List Nat} {vs:List V} {xs:List Value} {j k:Nat} {v:V} {x:Value}
section
variable {P:Program} {T:List (Nat×Ty)} {ρ ρ':Rho} {lab:Lab} {w:World} {H:Hp} {fr:Fr} {a:Act} {n nr:Nat} {env:Env} {orc:Orc}
theorem Rel.a7G (h:Rel ρ lab w v x):Rel ρ lab w (b4T v) x:=by
 cases h with
 | slice ow n cells xs b o ao cap g1 g2 g3 g4 g5 g6 g7 g8 g9=>exact .slice .sealed n cells xs b o ao cap g1 g2 g3 g4 g5 g6 trivial g8 g9
 | undef=>exact .undef _
 | bool=>exact .bool _
 | int=>exact .int _ _
 | str=>exact .str _
 | nilptr=>exact .nilptr
 | ptr r off b o c h=>exact .ptr r off b o c h
 | cptr cells xs b o h1 h2 h3 h4=>exact .cptr cells xs b o h1 h2 h3 h4
 | rslice r off n wh base g ao cap h1 h2 h3 h4 h5=>exact .rslice r off n wh base g ao cap h1 h2 h3 h4 h5
 | func fn a c xs ys h1 h2 h3 h4=>exact .func fn a c xs ys h1 h2 h3 h4
 | nilFunc=>exact .nilFunc
 | iface t v x h=>exact .iface t v x h
 | nilIface=>exact .nilIface
 | opq m=>exact .opq m
 | map r b c h=>exact .map r b c h
 | agg cells xs h1 h2=>exact .agg cells xs h1 h2
 | tuple cells xs h1 h2=>exact .tuple cells xs h1 h2
theorem c4O {f:V->V}(hf:∀v x,Rel ρ lab w v x->Rel ρ lab w (f v) x)(h:J2 ρ lab w vs xs):J2 ρ lab w (vs.map f) xs:=by
 refine⟨by rw[List.length_map];exact h.1,fun i v x hv hx=>?_⟩;rw[List.getElem?_map,Option.map_eq_some_iff]at hv;obtain⟨u,hu,rfl⟩:=hv;exact hf u x (h.2 i u x hu hx)
theorem J2.a7G (h:J2 ρ lab w vs xs):J2 ρ lab w (vs.map b4T) xs:=c4O (fun _ _ h=>h.a7G) h
theorem Rel.b4S (h:Rel ρ lab w v x):Rel ρ lab w (a9z v) x:=by
 cases v with
 | agg cs=>cases h with|agg _ xs h1 h2=>have:=J2.a7G (ρ:=ρ) (lab:=lab) (w:=w) ⟨h1,h2⟩;exact .agg _ xs this.1 this.2
 | _=>exact h.a7G
theorem J2.c3d:∀{vs:List V} {i:Nat} {xs:List Value},J2 ρ lab w vs xs->J2 ρ lab w (b74 i vs) xs
 | [],i,_,h=>by cases i<;>exact h
 | v::r,0,xs,h=>by
  obtain⟨x,xr,rfl,h1,h2⟩:=E9.1 h;exact E9.2 ⟨x,xr,rfl,h1.a7G,h2⟩
 | v::r,i+1,xs,h=>by
  obtain⟨x,xr,rfl,h1,h2⟩:=E9.1 h;exact E9.2 ⟨x,xr,rfl,h1,J2.c3d h2⟩
theorem Sim.seal1 (hS:Sim ρ lab H w){cs:List V}(hk:hget k H=some (.row cs)):Sim ρ lab (hset k (.row (b74 j cs)) H) w:=by
 refine Sim.mk' hS.kp (fun i o hi=>?_) (fun i n' x h=>?_) (fun i x h=>?_) hS.ldom
 ·rw[D6]at hi;split at hi
  ·rename_i he;subst he;cases hi;obtain⟨b,o,xs,g1,g2,g3⟩:=hS.row i cs hk;exact⟨b,o,xs,g1,g2.c3d,g3⟩
  ·exact hS.obj hi
 ·obtain⟨e,m,g1,g2⟩:=hS.hdom i n' x h;refine⟨e,m,?_,g2⟩;rw[D6,if_neg]
  ·exact g1
  ·rintro rfl;rw[hk]at g1;cases g1
 ·rw[D6];split
  ·simp
  ·exact hS.adom i x h
theorem Sim.b2W (fr:Fr):∀(l:List (Nat×Nat)) {H:Hp},Sim ρ lab H w->Sim ρ lab (b2W fr l H) w
 | [],_,hS=>hS
 |(s,j)::r,H,hS=>by
  simp only[Vm.b2W];refine Sim.b2W fr r ?_;split
  ·split
   ·rename_i hk;exact hS.seal1 hk
   ·exact hS
  ·split
   ·split
    ·rename_i hk;exact hS.seal1 hk
    ·exact hS
   ·exact hS
theorem b50 (l:List (Nat×Nat))(t:Nat)(x:Value):∀{fr:Fr},Rel ρ lab w (look t fr) x->Rel ρ lab w (look t (b76 l fr)) x
 | [],h=>h
 |(s,v)::r,h=>by
  simp only[b76];by_cases hs:s=t
  ·subst hs;rw[a3T]at h ⊢;cases hasP (100000+s) 0 l with
   | true=>exact h.b4S
   | false=>exact h
  ·rw[a18 hs]at h ⊢;exact b50 l t x h
structure a2q (nr:Nat)(ρ ρ':Rho):Prop where
 at_:∀k x,k<nr->ρ.at_ k=some x->ρ'.at_ k=some x
 hd:∀k n x,k<nr->ρ.hd k n=some x->ρ'.hd k n=some x
theorem a2q.of_le (h:ρ.le ρ')(nr:Nat):a2q nr ρ ρ':=⟨fun k x _ hx=>h.at_ k x hx,fun k n x _ hx=>h.hd k n x hx⟩
theorem a2q.trans {a b c:Rho}{n m:Nat}(h:a2q n a b)(g:a2q m b c)(hm:n<=m):a2q n a c :=
 ⟨fun k x hk hx=>g.at_ k x (by omega) (h.at_ k x hk hx),fun k l x hk hx=>g.hd k l x (by omega) (h.hd k l x hk hx)⟩
theorem b5t:∀{k nr:Nat} {ns:List Nat},b1h k nr ns=true -> ∀i,i<nr->ns[i]? = some (k+i)
 | _,0,_,_,i,hi=>by omega
 | _,_+1,[],h,_,_=>by cases h
 | k,n+1,a::r,h,i,hi=>by
  simp only[b1h,Bool.and_eq_true]at h;cases i with
  | zero=>have:=Nat.eq_of_beq_eq_true h.1;simp[this]
  | succ i =>
   have:=b5t h.2 i (by omega);simp only[List.getElem?_cons_succ,this];congr 1;omega
theorem b3p (h:b1h 0 nr ns=true):a2q nr ρ (ρ.sub ns) where
 at_:=fun k x hk hx=>by have:=b5t h k hk;simp only[Nat.zero_add]at this;simp only[Rho.sub,this];exact hx
 hd:=fun k n x hk hx=>by have:=b5t h k hk;simp only[Nat.zero_add]at this;simp only[Rho.sub,this];exact hx
theorem b7Y:∀{k nr:Nat} {ns:List Nat},b1h k nr ns=true->nr<=ns.length
 | _,0,_,_=>Nat.zero_le _
 | _,_+1,[],h=>by cases h
 | k,n+1,a::r,h=>by
  simp only[b1h,Bool.and_eq_true]at h;have:=b7Y h.2;simp only[List.length_cons];omega
theorem Sim.pick (hS:Sim ρ lab H w)(hn:ns.Nodup)(hp:a6k H (idx · ns) ns 0=some H2){lab2:Lab}
  (hl0:∀b o,lab b o=none->lab2 b o=none) (hl1:∀b o k i,lab b o=some (some k)->idx k ns=some i->lab2 b o=some (some i)) (hl2:∀b o y,lab2 b o=some y->lab b o≠none) (hl3:∀b o k,lab2 b o=some (some k) -> ∃j,lab b o=some (some j)) :
  Ren (idx · ns) ρ (ρ.sub ns) lab lab2/\Sim (ρ.sub ns) lab2 H2 w:=by
 obtain⟨c1,c2,c3⟩:=b0x hp;have hR:Ren (idx · ns) ρ (ρ.sub ns) lab lab2:=⟨(b4Q (lab:=lab) ns).at_,(b4Q (lab:=lab) ns).hd,hl0⟩
 have hsome:∀i k,ns[i]? = some k -> ∃o o',hget k H=some o/\b3D (idx · ns) o=some o'/\hget i H2=some o':=fun i k hk=>by
  have:=c3 i k hk;simpa using this
 refine⟨hR,Sim.mk' ⟨hS.kp.1,fun p hp o k h=>by obtain⟨j,hj⟩:=hl3 _ _ _ h;exact hS.kp.2 p hp o j hj⟩ (fun j o hj=>?_) (fun j n' x h=>?_) (fun j x h=>?_) (fun b o j hl=>?_)⟩
 ·have hlt:=a3g c1 j o hj;have hjn:j<ns.length:=by omega
  obtain⟨o1,o2,k1,k2,k3⟩:=hsome j ns[j] (by simp[hjn]);rw[hj]at k3;cases k3;have hidx:=b6m hn (show ns[j]? = some ns[j]from by simp[hjn]);exact a6p.ren hR hidx (fun b p hl=>hl1 b p _ _ hl hidx) (hS.obj k1) k2
 ·simp only[Rho.sub,Option.bind_eq_some_iff]at h;obtain⟨k,hk,hx⟩:=h;obtain⟨e,m,g1,g2⟩:=hS.hdom k n' x hx;obtain⟨o1,o2,k1,k2,k3⟩:=hsome j k hk;rw[g1]at k1;cases k1;simp only[b3D]at k2;cases k2;exact⟨e,m,k3,g2⟩
 ·simp only[Rho.sub,Option.bind_eq_some_iff]at h;obtain⟨k,hk,hx⟩:=h;obtain⟨o1,o2,k1,k2,k3⟩:=hsome j k hk;rw[k3];simp
 ·have:=hl2 b o j hl;cases hq:lab b o with
  | none=>exact absurd hq this
  | some y=>exact hS.ldom b o y hq
def Lab.drop (lab:Lab)(ns:List Nat):Lab:=fun b o=>match lab b o with
 | some (some k)=>(match idx k ns with|some i=>some (some i)|none=>none)
 | x=>x
theorem Sim.drop (hS:Sim ρ lab H w)(hn:ns.Nodup)(hp:a6k H (idx · ns) ns 0=some H2) :
  Ren (idx · ns) ρ (ρ.sub ns) lab (lab.drop ns)/\Sim (ρ.sub ns) (lab.drop ns) H2 w/\Ext lab w (lab.drop ns) w:=by
 have hl0:∀b o,lab b o=none->lab.drop ns b o=none:=fun b o h=>by simp only[Lab.drop,h]
 obtain⟨h1,h2⟩:=hS.pick hn hp (lab2:=lab.drop ns) hl0 (fun b o k i hl hi=>by simp only[Lab.drop,hl,hi]) (fun b o y hy hq=>by rw[hl0 b o hq]at hy;cases hy) (fun b o k h=>by
  simp only[Lab.drop]at h;cases hq:lab b o with
  | none=>rw[hq]at h;cases h
  | some y =>
   cases y with
   | none=>rw[hq]at h;cases h
   | some j=>exact⟨j,rfl⟩)
 refine⟨h1,h2,⟨Nat.le_refl _,rfl,rfl,rfl,fun b o _ h=>hl0 b o h,fun b o=>?_,fun _ _ _ _=>⟨rfl,rfl⟩,fun _ _ _=>rfl⟩⟩;simp only[Lab.drop];split
 ·rename_i k hk;rw[hk];split<;>simp
 ·exact .rfl
theorem Ext.b2Y (lab:Lab)(w:World)(ns:List Nat):∀b o,lab.sub ns b o=none↔lab b o=none:=by
 intro b o;simp only[Lab.sub];split
 ·rename_i k hk;rw[hk];split<;>simp
 ·exact .rfl
theorem renum_ok (hS:Sim ρ lab H w)(hF:a3N ρ lab w fr arr)(h:renum nr fr H=some (fr',H')) :
  ∃ρ' lab',Sim ρ' lab' H' w/\Ext lab w lab' w/\a2q nr ρ ρ'/\a3N ρ' lab' w fr' arr:=by
 unfold renum at h;simp only[b81,fF_eq,b1q]at h;generalize hns:reach H 99 (List.range nr++fr.flatMap fun p=>a1i dep p.2) []=ns at h;have hn:ns.Nodup:=by rw[<-hns];exact a6l _ _ _ _ List.nodup_nil
 split at h
 ·rename_i fr2 H2 hm hp hr;simp only[Option.some.injEq,Prod.mk.injEq]at h;obtain⟨rfl,rfl⟩:=h;obtain⟨hR,hS2,hE⟩:=hS.drop hn hp;refine⟨_,_,hS2,hE,b3p hr,fun t=>?_⟩;rcases b38 hm t with hu|hu
  ·rw[hu];exact .undef _
  ·exact Rel.ren hR dep hu (hF t)
 ·cases h
theorem b7x {f lp:Nat} (hS:Sim ρ lab H w) (hF:a3N ρ lab w fr arr) (h:b4J env f nr lp fr H = some (fr',H')) :
    ∃ρ' lab',Sim ρ' lab' H' w/\Ext lab w lab' w/\a2q nr ρ ρ'/\a3N ρ' lab' w fr' arr:=by
  unfold b4J at h;simp only[b81,fF_eq,b1q]at h;generalize hfr1:b76 (env.slk f lp) ((env.keep f lp).map fun s=>(s,look s fr))=fr1 at h;have hS:=hS.b2W fr1 (env.slk f lp);generalize b2W fr1 (env.slk f lp) H=H at h hS;generalize hns:reach H 99 (List.range nr++fr1.flatMap fun p=>a1i dep p.2) []=ns at h;have hn:ns.Nodup:=by rw[<-hns];exact a6l _ _ _ _ List.nodup_nil
  split at h
  · rename_i fr2 H2 hm hp hr
    obtain⟨hR,hS2,hE⟩:=hS.drop hn hp;obtain⟨c1,c2,_⟩:=b0x hp;obtain⟨g1,g2⟩:=b1g (env.byref f) fr2 ns.length;rw[<-c2]at h;rw[<-c2]at *;have hmf:=b1l (a4w (env.byref f) fr2 H2.length).1 (H2.length+(a4w (env.byref f) fr2 H2.length).2.length);have hmr:=a4l H2 (a7F (a4w (env.byref f) fr2 H2.length).1 (H2.length+(a4w (env.byref f) fr2 H2.length).2.length)).2;obtain⟨ρ',k1,k2,k3,k4,k5,k6⟩:=hS2.b1x c1 g1 g2 hmf;have hF2:a3N ρ' (lab.drop ns) w (a7F (a4w (env.byref f) fr2 H2.length).1 (H2.length+(a4w (env.byref f) fr2 H2.length).2.length)).1 arr:=fun t=>by
     have h1:Rel (ρ.sub ns) (lab.drop ns) w (look t fr2) (arr.getD t undef):=by
       rcases b38 hm t with hu|hu
       · rw[hu];exact .undef _
       · refine Rel.ren hR dep hu ?_
         rw[<-hfr1];refine b50 (env.slk f lp) t _ ?_;rcases b9c (env.keep f lp) fr t with hv|hv
         · rw[hv];exact .undef _
         · rw[hv];exact hF t
     have h2:=b5s (env.byref f) k1 t _ fr2 H2.length k2 h1;exact b8h (Rho.le.refl _) t _ _ _ (fun j g3 g4=>k3 j g3 (by omega)) h2
    obtain⟨ρ2,m1,m2,m3,_⟩:=fullN_ok (b:=env.full) k4 k5 hF2;split at h
    · obtain⟨ρ3,lab3,q1,q2,q3,q4⟩:=renum_ok m2 m3 h
      exact⟨ρ3,lab3,q1,hE.trans q2,((b3p hr).trans (a2q.of_le (k1.trans m1) nr) (Nat.le_refl _)).trans q3 (Nat.le_refl _),q4⟩
    · simp only[Option.some.injEq,Prod.mk.injEq]at h
      rw[h.2]at m2;rw[h.1]at m3;exact⟨ρ2,_,m2,hE,(b3p hr).trans (a2q.of_le (k1.trans m1) nr) (Nat.le_refl _),m3⟩
  · cases h
theorem b85 {v':V}(hS:Sim ρ lab H w)(hv:Rel ρ lab w v x)(h:finish nr v H=some (v',H')) :
  ∃ρ' lab',Sim ρ' lab' H' w/\Ext lab w lab' w/\a2q nr ρ ρ'/\Rel ρ' lab' w v' x/\Canon 0 H'/\nr<=H'.length:=by
 unfold finish at h;simp only[b81,b66,b1q]at h;generalize hns:reach H 99 (List.range nr++a1i dep v) []=ns at h;have hn:ns.Nodup:=by rw[<-hns];exact a6l _ _ _ _ List.nodup_nil
 split at h
 ·rename_i v2 H2 hm hp hr;simp only[Option.some.injEq,Prod.mk.injEq]at h;obtain⟨rfl,rfl⟩:=h;obtain⟨hR,hS2,hE⟩:=hS.drop hn hp;obtain⟨c1,c2,_⟩:=b0x hp;exact⟨_,_,hS2,hE,b3p hr,Rel.ren hR dep hm hv,c1,by rw[c2];exact b7Y hr⟩
 ·cases h
theorem b9j {m:Nat->Option Nat}:∀{L:Hp} {i0:Nat} {H H4:Hp},Canon i0 L ->(∀i i' j o o',hget i L=some o->hget i' L=some o'->m i=some j->m i'=some j->i=i')->a1H m L H=some H4 ->
  (∀i o,hget i L=some o -> ∃j o',m i=some j/\b3D m o=some o'/\hget j H4=some o') /\ ∀j,(∀i o,hget i L=some o->m i≠some j)->hget j H4=hget j H
 | [],i0,H,H4,_,_,h=>by simp only[a1H]at h;cases h;exact⟨fun i o h=>(by cases h),fun _ _=>rfl⟩
 |(s,o)::r,i0,H,H4,hc,hinj,h=>by
  obtain⟨rfl,hc2⟩:=hc;simp only[a1H]at h;split at h
  ·rename_i j0 o0 hj0 ho0;have hsr:∀i o,hget i r=some o->hget i ((s,o0)::r)=some o/\s≠i:=fun i o hi=>by
    have:=a3g hc2 i o hi;have hb:Nat.beq s i=false:=by
     cases hb:Nat.beq s i with
     | true=>have:=Nat.eq_of_beq_eq_true hb;omega
     | false=>rfl
    exact⟨by simp only[hget,hb];exact hi,by omega⟩
   have hsr':∀i o1,hget i r=some o1->hget i ((s,o)::r)=some o1/\s≠i:=fun i o1 hi=>by
    have h1:=hsr i o1 hi;simp only[hget]at h1 ⊢;split
    ·rename_i hb;exact absurd (Nat.eq_of_beq_eq_true hb) h1.2
    ·exact⟨hi,h1.2⟩
   have hhead:hget s ((s,o)::r)=some o:=by simp[hget]
   obtain⟨k1,k2⟩:=b9j hc2 (fun i i' j o1 o2 h1 h2=>hinj i i' j o1 o2 (hsr' i o1 h1).1 (hsr' i' o2 h2).1) h;refine⟨fun i o1 hi=>?_,fun j hj=>?_⟩
   ·simp only[hget]at hi;split at hi
    ·rename_i hb;cases hi;have:=Nat.eq_of_beq_eq_true hb;subst this;refine⟨j0,o0,hj0,ho0,?_⟩;rw[k2 j0 (fun i' o' hi' hm=>(hsr' i' o' hi').2 (hinj s i' j0 o o' hhead (hsr' i' o' hi').1 hj0 hm)),D6,if_pos rfl]
    ·exact k1 i o1 hi
   ·rw[k2 j (fun i' o' hi'=>hj i' o' (hsr' i' o' hi').1),D6,if_neg];rintro rfl;exact hj s o hhead hj0
  ·cases h
theorem b5e:∀{n k:Nat},b0M H k n=true -> ∀i,i<n->hget (k+i) H=none
 | 0,_,_,i,hi=>by omega
 | n+1,k,h,i,hi=>by
  simp only[b0M,Bool.and_eq_true]at h;rcases Nat.lt_or_ge i n with h1|h1
  ·exact b5e h.2 i h1
  ·have:i=n:=by omega
   subst this;cases hq:hget (k+i) H with
   | none=>rfl
   | some o=>rw[hq]at h;simp at h
def Rho.back (ρ ρ3:Rho)(H:Hp)(ns:List Nat)(k:Nat):Rho :=
  ⟨fun j=>match idx j ns with|some i=>ρ3.at_ i|none=>match hget j H with|some _=>ρ.at_ j|none=>if k<=j then ρ3.at_ (ns.length+(j-k))else none,
   fun j m=>match idx j ns with|some i=>ρ3.hd i m|none=>match hget j H with|some _=>ρ.hd j m|none=>if k<=j then ρ3.hd (ns.length+(j-k)) m else none⟩
def Lab.back (lab lab3:Lab)(ns:List Nat)(k:Nat):Lab:=fun b o=>match lab3 b o with
 | some (some i)=>(match J3 ns k i with|some j=>some (some j)|none=>none)
 | some none=>lab b o
 | none=>none
theorem c2a (h:∀i:Nat,ns[i]? ≠ some j):idx j ns=none:=by
 cases hq:idx j ns with
 | none=>rfl
 | some i=>exact absurd (a9q hq) (h i)
theorem b7s {ρn ρ3:Rho}{lab3:Lab}{w':World}{H3 H4:Hp}{nc:Nat}{v4:V}(hS:Sim ρ lab H w)(hn:ns.Nodup)
  (hpick:∀i j:Nat,ns[i]? = some j->hget j H≠none) (hnc:ns.length<=nc) (hle:(ρ.sub ns).le ρn) (S3:Sim ρ3 lab3 H3 w') (E3:Ext (lab.sub ns) w lab3 w') (R3:a2q nc ρn ρ3) (c3:Canon 0 H3)
  (hlen:nc<=H3.length) (hv:Rel ρ3 lab3 w' v x) (hv4:a1D (J3 ns k) dep v=some v4) (hm:a1H (J3 ns k) H3 H=some H4) (hf:b0M H k (H3.length-ns.length)=true) :
  ∃ρ4 lab4,Sim ρ4 lab4 H4 w'/\Ext lab w lab4 w'/\ρ.le ρ4/\Rel ρ4 lab4 w' v4 x:=by
 have hfr:=b5e hf;have hlt:∀i o,hget i H3=some o->i<H3.length:=fun i o h=>by have:=a3g c3 i o h;omega
 have hbn:∀i j,i<H3.length->J3 ns k i=some j ->(ns[i]? = some j/\i<ns.length/\idx j ns=some i)∨(ns.length<=i/\j=k+(i-ns.length)/\hget j H=none/\idx j ns=none):=by
  intro i j hi hb;unfold J3 at hb;split at hb
  ·rename_i j' hj';cases hb;refine .inl ⟨hj',?_,b6m hn hj'⟩;rcases Nat.lt_or_ge i ns.length with h|h
   ·exact h
   ·rw[List.getElem?_eq_none h]at hj';cases hj'
  ·rename_i hj';cases hb;have hge:ns.length<=i:=by
    rcases Nat.lt_or_ge i ns.length with h|h
    ·rw[List.getElem?_eq_getElem h]at hj';cases hj'
    ·exact h
   have hnone:=hfr (i-ns.length) (by omega);exact .inr ⟨hge,rfl,hnone,c2a fun i' hi'=>hpick i' _ hi' hnone⟩
 have hinj:∀i i' j o o',hget i H3=some o->hget i' H3=some o'->J3 ns k i=some j->J3 ns k i'=some j->i=i':=by
  intro i i' j o o' h1 h2 b1 b2;rcases hbn i j (hlt _ _ h1) b1 with⟨p1,p2,p3⟩ |⟨p1,p2,p3,p4⟩<;>rcases hbn i' j (hlt _ _ h2) b2 with⟨q1,q2,q3⟩ |⟨q1,q2,q3,q4⟩
  ·rw[p3]at q3;cases q3;rfl
  ·rw[p3]at q4;cases q4
  ·rw[p4]at q3;cases q3
  ·omega
 obtain⟨m1,m2⟩:=b9j c3 hinj hm;have hat3:∀i x,ρ3.at_ i=some x->i<H3.length:=fun i x h=>by
  have:=S3.adom i x h;cases hq:hget i H3 with
  | none=>exact absurd hq this
  | some o=>exact hlt i o hq
 have hhd3:∀i m x,ρ3.hd i m=some x->i<H3.length:=fun i m x h=>by
  obtain⟨e,m',h1,_⟩:=S3.hdom i m x h;exact hlt i _ h1
 have hR:Ren (J3 ns k) ρ3 (ρ.back ρ3 H ns k) lab3 (lab.back lab3 ns k):=by
  refine⟨fun i j x hb hx=>?_,fun i j m x hb hx=>?_,fun b o hl=>by simp only[Lab.back,hl]⟩
  ·rcases hbn i j (hat3 i x hx) hb with⟨p1,p2,p3⟩ |⟨p1,p2,p3,p4⟩
   ·simp only[Rho.back,p3];exact hx
   ·simp only[Rho.back,p4,p3];rw[if_pos (by omega),p2,show ns.length+(k+(i-ns.length)-k)=i from by omega];exact hx
  ·rcases hbn i j (hhd3 i m x hx) hb with⟨p1,p2,p3⟩ |⟨p1,p2,p3,p4⟩
   ·simp only[Rho.back,p3];exact hx
   ·simp only[Rho.back,p4,p3];rw[if_pos (by omega),p2,show ns.length+(k+(i-ns.length)-k)=i from by omega];exact hx
 have hle4:ρ.le (ρ.back ρ3 H ns k):=by
  refine⟨fun j x hx=>?_,fun j m x hx=>?_⟩
  ·simp only[Rho.back];split
   ·rename_i i hi;have hg:=a9q hi;have hil:i<ns.length:=by
     rcases Nat.lt_or_ge i ns.length with h|h
     ·exact h
     ·rw[List.getElem?_eq_none h]at hg;cases hg
    refine R3.at_ i x (by omega) (hle.at_ i x ?_);simp only[Rho.sub,hg];exact hx
   ·split
    ·exact hx
    ·rename_i hq;exact absurd hq (hS.adom j x hx)
  ·simp only[Rho.back];split
   ·rename_i i hi;have hg:=a9q hi;have hil:i<ns.length:=by
     rcases Nat.lt_or_ge i ns.length with h|h
     ·exact h
     ·rw[List.getElem?_eq_none h]at hg;cases hg
    refine R3.hd i m x (by omega) (hle.hd i m x ?_);simp only[Rho.sub,hg];exact hx
   ·split
    ·exact hx
    ·rename_i hq;obtain⟨e,m',h1,_⟩:=hS.hdom j m x hx;rw[hq]at h1;cases h1
 have hsub0:=Ext.b2Y lab w ns;have hsubc:∀b o,lab b o=some none->lab.sub ns b o=some none:=fun b o h=>by simp only[Lab.sub,h]
 have hown:∀b o i,lab.sub ns b o=some (some i) -> ¬ ∀k,lab b o≠some (some k):=fun b o i hi hl=>by
  cases hq:lab b o with
  | none=>simp only[Lab.sub,hq]at hi;cases hi
  | some y =>
   cases y with
   | none=>simp only[Lab.sub,hq]at hi;cases hi
   | some j=>exact hl j hq
 have hE4:Ext lab w (lab.back lab3 ns k) w':=by
  refine⟨E3.size,E3.os,E3.tape,E3.output,fun b o hb hl=>?_,fun b o=>⟨fun h=>?_,fun h=>?_⟩,fun b o hb hl=>E3.cl b o hb (fun i hi=>?_),fun b hb hl=>E3.blk b hb (fun o i hi=>?_)⟩
  ·have:=E3.lb b o hb ((hsub0 b o).2 hl);simp only[Lab.back,this]
  ·simp only[Lab.back]at h;split at h
   ·split at h<;>cases h
   ·exact h
   ·cases h
  ·have:=(E3.ctx b o).2 (hsubc b o h);simp only[Lab.back,this,h]
  ·exact hown b o i hi hl
  ·exact hown b o i hi (hl o)
 have hold:∀j,(∀i o,hget i H3=some o->J3 ns k i≠some j)->hget j H≠none->idx j ns=none:=by
  intro j hno hj;refine c2a fun i hi=>?_;have hil:i<ns.length:=by
   rcases Nat.lt_or_ge i ns.length with h|h
   ·exact h
   ·rw[List.getElem?_eq_none h]at hi;cases hi
  obtain⟨o,ho⟩:=b30 c3 (Nat.zero_le i) (by omega);refine hno i o ho ?_;unfold J3;rw[hi]
 refine⟨ρ.back ρ3 H ns k,lab.back lab3 ns k,Sim.mk' (hS.kp.ext hE4) (fun j o hj=>?_) (fun j m y h=>?_) (fun j y h=>?_) (fun b o j hl=>?_),hE4,hle4,Rel.ren hR dep hv4 hv⟩
 ·by_cases hit:∃i o3,hget i H3=some o3/\J3 ns k i=some j
  ·obtain⟨i,o3,h1,h2⟩:=hit;obtain⟨j',o',g1,g2,g3⟩:=m1 i o3 h1;rw[h2]at g1;cases g1;rw[hj]at g3;cases g3;exact a6p.ren hR h2 (fun b p hl=>by simp only[Lab.back,hl,h2]) (S3.obj h1) g2
  ·have hno:∀i o,hget i H3=some o->J3 ns k i≠some j:=fun i o h1 h2=>hit ⟨i,o,h1,h2⟩;have hj':=m2 j hno;rw[hj]at hj';have hid:=hold j hno (by rw[<-hj'];simp);refine(hS.obj hj'.symm).carry hE4 hle4 (fun b p hq=>?_) (fun b ms c hq=>by
    have hsl:∀p,lab.sub ns b p=some none:=fun p=>by simp only[Lab.sub,hq.lab,hid]
    have h3:∀p,lab3 b p=some none:=fun p=>(E3.ctx b p).2 (hsl p);exact⟨fun p=>by simp only[Lab.back,h3];exact hq.lab p,(E3.blk b hq.lt (fun o i hi=>by rw[hsl]at hi;cases hi)).trans hq.blk⟩)
   obtain⟨y,hy⟩:=hq.cell;have hb:=a1d hy;have hsl:lab.sub ns b p=some none:=by simp only[Lab.sub,hq.lab,hid]
   have h3:=(E3.ctx b p).2 hsl;obtain⟨f1,f2⟩:=E3.cl b p hb (fun i hi=>by rw[hsl]at hi;cases hi);exact⟨⟨by simp only[Lab.back,h3];exact hq.lab,f2.trans hq.free,y,f1.trans hy⟩,f1⟩
 ·simp only[Rho.back]at h;have viaI:∀i,J3 ns k i=some j->ρ3.hd i m=some y -> ∃e m',hget j H4=some (.tip e m')/\m<=m':=by
   intro i hb hx;obtain⟨e,m',g1,g2⟩:=S3.hdom i m y hx;obtain⟨j',o',k1,k2,k3⟩:=m1 i _ g1;rw[hb]at k1;cases k1;simp only[b3D]at k2;cases k2;exact⟨e,m',k3,g2⟩
  split at h
  ·rename_i i hi;exact viaI i (by unfold J3;rw[a9q hi]) h
  ·rename_i hi;split at h
   ·rename_i o ho;obtain⟨e,m',g1,g2⟩:=hS.hdom j m y h;have hno:∀i o,hget i H3=some o->J3 ns k i≠some j:=fun i o h1 h2=>by
     rcases hbn i j (hlt _ _ h1) h2 with⟨p1,p2,p3⟩ |⟨p1,p2,p3,p4⟩
     ·rw[hi]at p3;cases p3
     ·rw[ho]at p3;cases p3
    rw[m2 j hno];exact⟨e,m',g1,g2⟩
   ·split at h
    ·rename_i hk;refine viaI (ns.length+(j-k)) ?_ h;unfold J3;rw[List.getElem?_eq_none (by omega)];simp only[Option.some.injEq];omega
    ·cases h
 ·simp only[Rho.back]at h;have viaI:∀i,J3 ns k i=some j->ρ3.at_ i=some y->hget j H4≠none:=by
   intro i hb hx;have:=S3.adom i y hx;cases hq:hget i H3 with
   | none=>exact absurd hq this
   | some o =>
    obtain⟨j',o',k1,k2,k3⟩:=m1 i _ hq;rw[hb]at k1;cases k1;rw[k3];simp
  split at h
  ·rename_i i hi;exact viaI i (by unfold J3;rw[a9q hi]) h
  ·rename_i hi;split at h
   ·rename_i o ho;have hno:∀i o,hget i H3=some o->J3 ns k i≠some j:=fun i o h1 h2=>by
     rcases hbn i j (hlt _ _ h1) h2 with⟨p1,p2,p3⟩ |⟨p1,p2,p3,p4⟩
     ·rw[hi]at p3;cases p3
     ·rw[ho]at p3;cases p3
    rw[m2 j hno,ho];simp
   ·split at h
    ·rename_i hk;refine viaI (ns.length+(j-k)) ?_ h;unfold J3;rw[List.getElem?_eq_none (by omega)];simp only[Option.some.injEq];omega
    ·cases h
 ·simp only[Lab.back]at hl;cases hq:lab3 b o with
  | none=>rw[hq]at hl;cases hl
  | some y=>exact S3.ldom b o y hq
end
variable {A B:Hp}
theorem eqOwn_eq:∀{a b:Own},eqOwn a b=true->a=b
 | .sealed,b,h=>by cases b<;>first|rfl|cases h
 | .full,b,h=>by cases b<;>first|rfl|cases h
 | .nil,b,h=>by cases b<;>first|rfl|cases h
 | .tag g,b,h=>by cases b<;>first |(rw[Nat.eq_of_beq_eq_true h])|cases h
theorem c3X (a:Own):eqOwn a a=true:=by cases a<;>simp[eqOwn]
mutual
theorem b99:∀(a b:V),eqV a b=true->a=b
 | .undef,b,h=>by cases b<;>first|rfl |(simp[eqV]at h)
 | .bool x,b,h=>by cases b<;>simp[eqV]at h ⊢ <;> exact h
 | .int k n,b,h=>by cases b<;>simp[eqV]at h ⊢ <;> exact h
 | .str x,b,h=>by cases b<;>simp[eqV]at h ⊢ <;> exact h
 | .nilptr,b,h=>by cases b<;>first|rfl |(simp[eqV]at h)
 | .ptr r o,b,h=>by cases b<;>simp[eqV]at h ⊢ <;> exact h
 | .cptr cs,b,h=>by
  cases b<;>simp[eqV]at h ⊢;exact b0K cs _ h
 | .slice o n cs,b,h=>by
  cases b<;>simp[eqV]at h ⊢;exact⟨eqOwn_eq h.1.1,h.1.2,b0K cs _ h.2⟩
 | .rslice r o n w,b,h=>by
  cases b<;>simp[eqV]at h ⊢;exact⟨h.1.1.1,h.1.1.2,h.1.2,h.2⟩
 | .func f a c,b,h=>by
  cases b<;>simp[eqV]at h ⊢;exact⟨h.1.1,b0K a _ h.1.2,b0K c _ h.2⟩
 | .nilFunc,b,h=>by cases b<;>first|rfl |(simp[eqV]at h)
 | .iface t v,b,h=>by
  cases b<;>simp[eqV]at h ⊢;exact⟨h.1,b99 v _ h.2⟩
 | .nilIface,b,h=>by cases b<;>first|rfl |(simp[eqV]at h)
 | .opq,b,h=>by cases b<;>first|rfl |(simp[eqV]at h)
 | .map r,b,h=>by cases b<;>simp[eqV]at h ⊢ <;> exact h
 | .agg cs,b,h=>by
  cases b<;>simp[eqV]at h ⊢;exact b0K cs _ h
 | .tuple cs,b,h=>by
  cases b<;>simp[eqV]at h ⊢;exact b0K cs _ h
theorem b0K:∀(a b:List V),eqL a b=true->a=b
 | [],b,h=>by cases b<;>first|rfl |(simp[eqL]at h)
 | x::r,b,h=>by
  cases b<;>simp[eqL]at h ⊢;exact⟨b99 x _ h.1,b0K r _ h.2⟩
end
mutual
theorem b6Z:∀a:V,eqV a a=true
 | .undef | .bool _ | .int _ _ | .str _ | .nilptr | .ptr _ _ | .rslice _ _ _ _ | .nilFunc | .nilIface | .opq | .map _=>by simp[eqV]
 | .cptr cs | .agg cs | .tuple cs=>by simp[eqV,a94 cs]
 | .slice o n cs=>by simp[eqV,c3X,a94 cs]
 | .func f a c=>by simp[eqV,a94 a,a94 c]
 | .iface t v=>by simp[eqV,b6Z v]
theorem a94:∀a:List V,eqL a a=true
 | []=>by simp[eqL]
 | x::r=>by simp[eqL,b6Z x,a94 r]
end
theorem c1Q:∀a:List (V×V),eqE a a=true
 | []=>rfl
 |(a,b)::r=>by simp[eqE,b6Z,c1Q r]
theorem eqE_eq:∀{a b:List (V×V)},eqE a b=true->a=b
 | [],b,h=>by cases b<;>first|rfl |(simp[eqE]at h)
 |(x,y)::r,b,h=>by
  cases b with
  | nil=>simp[eqE]at h
  | cons z s =>
   obtain⟨c,d⟩:=z;simp only[eqE,Bool.and_eq_true]at h;rw[b99 x _ h.1.1,b99 y _ h.1.2,eqE_eq h.2]
theorem c1R (a:Option Obj):eqO a a=true:=by
 cases a with
 | none=>rfl
 | some x=>cases x<;>simp[eqO,a94,c1Q]
theorem eqO_eq {a b:Option Obj}(h:eqO a b=true):a=b:=by
 cases a with
 | none=>cases b with
  | none=>rfl
  | some y=>cases y<;>simp[eqO]at h
 | some x=>cases b with
  | none=>cases x<;>simp[eqO]at h
  | some y =>
   cases x<;>cases y<;>simp[eqO]at h ⊢
   ·exact b0K _ _ h
   ·exact⟨h.1,b0K _ _ h.2⟩
   ·exact h
   ·exact eqE_eq h
theorem b7e {k:Nat}{o:Obj}:∀{H:Hp},hget k H=some o -> ∃p∈H,p.1=k
 |(j,x)::r,h=>by
  simp only[hget]at h;split at h
  ·rename_i hb;exact⟨(j,x),by simp,Nat.eq_of_beq_eq_true hb⟩
  ·obtain⟨p,h1,h2⟩:=b7e h;exact⟨p,by simp[h1],h2⟩
theorem c7H (h:b72 A B=true)(k:Nat):hget k A=hget k B:=by
 simp only[b72,Bool.and_eq_true,List.all_eq_true]at h;cases ha:hget k A with
 | some o =>
  obtain⟨p,h1,rfl⟩:=b7e ha;rw[<-ha];exact eqO_eq (h.1 p h1)
 | none=>cases hb:hget k B with
  | none=>rfl
  | some o =>
   obtain⟨p,h1,rfl⟩:=b7e hb;have:=eqO_eq (h.2 p h1);rw[ha,hb]at this;cases this
theorem c22 (h:∀k,hget k A=hget k B):b72 A B=true:=by
 simp only[b72,Bool.and_eq_true,List.all_eq_true];exact⟨fun p _=>by rw[h];exact c1R _,fun p _=>by rw[h];exact c1R _⟩
theorem c4V (A:Hp):b72 A A=true:=c22 fun _=>rfl
variable {b:Bool} {args:List V} {xs:List Value} {g k:Nat} {m:Nat->Bool} {r:OpR} {o:Oper} {v:V} {x:Value} {w':World}
section
variable {P:Program} {T:List (Nat×Ty)} {ρ ρ':Rho} {lab:Lab} {w:World} {H:Hp} {fr:Fr} {a:Act} {n nr:Nat} {env:Env} {orc:Orc}
theorem Rel.b75 (h:Rel ρ lab w v x):Rel ρ lab w (b75 v) x:=by
 cases v with
 | tuple vs =>
  cases h with
  | tuple _ xs h1 h2 =>
   have:=c4O (ρ:=ρ) (lab:=lab) (w:=w) (f:=a9z) (fun _ _ h=>h.b4S) ⟨h1,h2⟩;exact .tuple _ xs this.1 this.2
 | _=>exact h.b4S
theorem J2.b9O {vs:List V}(h:J2 ρ lab w vs xs):J2 ρ lab w (vs.map a9z) xs:=c4O (fun _ _ h=>h.b4S) h
theorem J2.c6A {m:Nat->Bool}:∀{vs:List V} {i:Nat} {xs:List Value},J2 ρ lab w vs xs->J2 ρ lab w (maskL m i vs) xs
 | [],_,_,h=>h
 | v::r,i,xs,h=>by
  obtain⟨x,xr,rfl,h1,h2⟩:=E9.1 h;refine E9.2 ⟨x,xr,rfl,?_,J2.c6A h2⟩;cases m i with
  | true=>exact h1
  | false=>exact h1.a7G
theorem J2.c6z {m:Nat->Bool}:∀{vs:List V} {i:Nat} {xs:List Value},J2 ρ lab w vs xs->J2 ρ lab w (maskG m i vs) xs
 | [],_,_,h=>h
 | v::r,i,xs,h=>by
  obtain⟨x,xr,rfl,h1,h2⟩:=E9.1 h;refine E9.2 ⟨x,xr,rfl,?_,J2.c6z h2⟩;cases m i with
  | true=>exact h1
  | false=>exact h1.b4S
theorem Rel.b7o {i:Nat}(h:Rel ρ lab w v x):Rel ρ lab w (b7o m i v) x:=by
 cases v with
 | agg cs=>cases h with|agg _ xs h1 h2=>have:=J2.c6A (ρ:=ρ) (lab:=lab) (w:=w) (m:=m) (i:=i) ⟨h1,h2⟩;exact .agg _ xs this.1 this.2
 | _ =>
  unfold Vm.b7o;cases m i with
  | true=>exact h
  | false=>exact h.a7G
theorem J2.c6B {m:Nat->Bool}:∀{vs:List V} {i:Nat} {xs:List Value},J2 ρ lab w vs xs->J2 ρ lab w (maskT m i vs) xs
 | [],_,_,h=>h
 | v::r,i,xs,h=>by
  obtain⟨x,xr,rfl,h1,h2⟩:=E9.1 h;exact E9.2 ⟨x,xr,rfl,h1.b7o,J2.c6B h2⟩
theorem Rel.b7p (h:Rel ρ lab w v x):Rel ρ lab w (b7p m v) x:=by
 cases v with
 | tuple vs=>cases h with|tuple _ xs h1 h2=>have:=J2.c6B (ρ:=ρ) (lab:=lab) (w:=w) (m:=m) (i:=0) ⟨h1,h2⟩;exact .tuple _ xs this.1 this.2
 | _=>exact h.b7o
theorem b5B (v:V)(k:Nat):k <=(b5A v k).2:=by
 unfold b5A;split
 ·exact a6m _ _
 ·exact Nat.le_succ _
 ·exact Nat.le_refl _
theorem b4m:∀(vs:List V) (k:Nat),k <=(b52 vs k).2
 | [],k=>Nat.le_refl _
 | v::r,k=>Nat.le_trans (b5B v k) (b4m r _)
theorem c7R (v:V)(k:Nat):k <=(tagD v k).2:=by
 cases v with
 | tuple vs=>exact b4m vs k
 | _=>exact b5B _ k
theorem Rel.b5A (hρ:ρ.le ρ')(hk:∀j,k<=j->j<(b5A v k).2->ρ'.hd j 0=some (none,0))(h:Rel ρ lab w v x):Rel ρ' lab w (b5A v k).1 x:=by
 unfold Vm.b5A at hk ⊢;split
 ·rename_i cs;cases h with
  | agg _ xs h1 h2=>have:=b0E (ρ:=ρ) (ρ':=ρ') (lab:=lab) (w:=w) hρ cs k xs hk ⟨h1,h2⟩;exact .agg _ xs this.1 this.2
 ·exact h.tag (hk k (Nat.le_refl _) (Nat.lt_succ_self _))
 ·exact h.up hρ
theorem c3a (hρ:ρ.le ρ'):∀(vs:List V) (k:Nat) (xs:List Value),(∀j,k<=j->j<(b52 vs k).2->ρ'.hd j 0=some (none,0))->J2 ρ lab w vs xs->J2 ρ' lab w (b52 vs k).1 xs
 | [],k,xs,_,h=>h.up hρ
 | v::r,k,xs,hk,h=>by
  obtain⟨x,xr,rfl,h1,h2⟩:=E9.1 h;simp only[b52]at hk ⊢;have m1:=b5B v k;have m2:=b4m r (Vm.b5A v k).2;exact E9.2 ⟨x,xr,rfl,h1.b5A hρ (fun j h3 h4=>hk j h3 (by omega)),c3a hρ r _ xr (fun j h3 h4=>hk j (by omega) h4) h2⟩
theorem Rel.tagD (hρ:ρ.le ρ')(hk:∀j,k<=j->j<(tagD v k).2->ρ'.hd j 0=some (none,0))(h:Rel ρ lab w v x):Rel ρ' lab w (tagD v k).1 x:=by
 cases v with
 | tuple vs=>cases h with|tuple _ xs h1 h2=>have:=c3a (ρ:=ρ) (ρ':=ρ') (lab:=lab) (w:=w) hρ vs k xs hk ⟨h1,h2⟩;exact .tuple _ xs this.1 this.2
 | _=>exact Rel.b5A hρ hk h
theorem c7S (hc:Canon 0 H)(hS:Sim ρ lab H w)(hv:Rel ρ lab w v x) :
  ∃ρ',ρ.le ρ'/\Sim ρ' lab (a3C b v H).2 w/\Rel ρ' lab w (a3C b v H).1 x/\Canon 0 (a3C b v H).2/\H.length <=(a3C b v H).2.length:=by
 cases b with
 | false=>exact⟨ρ,.refl _,hS,hv,hc,Nat.le_refl _⟩
 | true =>
  simp only[a3C];have hm:=c7R v H.length;obtain⟨ρn,k1,_,k3,k4,k5,k6⟩:=hS.b1x hc (G:=[]) (k2:=(tagD v H.length).2) trivial (fun j o h=>by cases h) (by rw[List.length_nil];exact hm);simp only[List.length_nil,Nat.add_zero,List.append_nil]at k3 k4 k5 k6;have hmr:=a4l H (tagD v H.length).2;exact⟨ρn,k1,k4,hv.tagD k1 (fun j h1 h2=>k3 j h1 (by omega)),k5,k6⟩
theorem Sim.freeze (hS:Sim ρ lab H w){e n cap:Nat}{wh:Bool}{cs:List V}{ao:Option Addr}(hk:hget k H=some (.grow e cs))(hv:Rel ρ lab w (.rslice k 0 n wh) (.slice ao n cap)) :
  ∃lab',Ext lab w lab' w/\Sim ρ lab' (hset k .gone H) w/\Rel ρ lab' w (.slice .sealed n (cs.take (n*e))) (.slice ao n cap):=by
 let lab':Lab:=fun b o=>match lab b o with
  | some (some j)=>if j=k then none else some (some j)
  | r=>r
 have e0:∀b o,lab b o=none->lab' b o=none:=fun b o h=>by simp only[lab',h]
 have e1:∀b o,lab' b o=some none↔lab b o=some none:=fun b o=>by
  simp only[lab'];split
  ·rename_i j hj;split<;>simp[hj]
  ·exact .rfl
 have e2:∀b o,lab b o=some (some k)->lab' b o=none:=fun b o h=>by simp only[lab',h,if_pos]
 have e3:∀b o j,lab b o=some (some j)->j≠k->lab' b o=some (some j):=fun b o j h hj=>by simp only[lab',h,if_neg hj]
 have e4:∀b o j,lab' b o=some j -> ∃j,lab b o=some j:=fun b o j h=>by
  cases hl:lab b o with
  | none=>rw[e0 _ _ hl]at h;cases h
  | some i=>exact⟨i,rfl⟩
 have hE:Ext lab w lab' w:=⟨Nat.le_refl _,rfl,rfl,rfl,fun b o _ h=>e0 b o h,e1,fun _ _ _ _=>⟨rfl,rfl⟩,fun _ _ _=>rfl⟩
 have hO:∀{j b o},j≠k->a2H lab w j b o->a2H lab' w j b o:=fun hj h=>⟨e3 _ _ _ h.lab hj,h.free,h.cell⟩
 have hg:∀{j o},hget j (hset k .gone H)=some o->o ≠ .gone->j≠k/\hget j H=some o:=fun{j o} h ho=>by
  by_cases hj:j=k
  ·subst hj;rw[D6,if_pos rfl]at h;cases h;exact absurd rfl ho
  ·rw[D6,if_neg hj]at h;exact⟨hj,h⟩
 refine⟨lab',hE,⟨hS.kp.ext hE,?_,?_,?_,?_,?_,?_,?_⟩,?_⟩
 ·intro j c h;obtain⟨hj,h⟩:=hg h (by simp);obtain⟨b,o,xs,h1,h2,h3⟩:=hS.row j c h;exact⟨b,o,xs,h1,h2.ext hE (.refl _),fun i x hx=>⟨hO hj (h3 i x hx).1,(h3 i x hx).2⟩⟩
 ·intro j e c h;obtain⟨hj,h⟩:=hg h (by simp);obtain⟨base,cc,xs,h1,h2,h3,h4,h5,h6,h7⟩:=hS.grow j e c h;exact⟨base,cc,xs,h1,h2.ext hE (.refl _),h3,h4,h5,h6,fun b o hb=>⟨fun i hi=>hO hj ((h7 b o hb).1 i hi),(h7 b o hb).2⟩⟩
 ·intro j e m h;obtain⟨hj,h⟩:=hg h (by simp);obtain⟨a,c,h1,h2,h3,h4,h5⟩:=hS.tip j e m h;exact⟨a,c,h1,h2,h3,h4,fun q hq=>⟨(h5 q hq).1,fun i hi hi2=>hO hj ((h5 q hq).2 i hi hi2)⟩⟩
 ·intro j es h;obtain⟨hj,h⟩:=hg h (by simp);obtain⟨b,ms,c,h1,h2,h3⟩:=hS.mp j es h;exact⟨b,ms,c,h1,h2.ext hE (.refl _),fun o=>e3 _ _ _ (h3.lab o) hj,h3.blk⟩
 ·intro j m x h;obtain⟨e,m2,h1,h2⟩:=hS.hdom j m x h;refine⟨e,m2,?_,h2⟩;by_cases hj:j=k
  ·subst hj;rw[hk]at h1;cases h1
  ·rw[D6,if_neg hj];exact h1
 ·intro j x h;by_cases hj:j=k
  ·subst hj;rw[D6,if_pos rfl];simp
  ·rw[D6,if_neg hj];exact hS.adom j x h
 ·intro b o j h;obtain⟨i,hi⟩:=e4 b o j h;exact hS.ldom b o i hi
 ·obtain⟨base,c,xs,h1,h2,h3,h4,h5,h6,h7⟩:=hS.grow k e cs hk;cases hv with
  | rslice _ _ _ _ base' g _ _ g1 g2 g3 g4 g5 =>
   rw[h1]at g1;cases g1;have hx:∀(i:Nat) (x:Value),(xs.take (n*e))[i]? = some x->xs[i]? = some x:=fun i x h=>by
    rw[List.getElem?_take]at h;split at h
    ·exact h
    ·cases h
   have hc:∀(i:Nat) (v:V),(cs.take (n*e))[i]? = some v->cs[i]? = some v:=fun i x h=>by
    rw[List.getElem?_take]at h;split at h
    ·exact h
    ·cases h
   cases hb:base with
   | none =>
    have hn0:n=0:=by
     rcases Nat.eq_zero_or_pos n with h|h
     ·exact h
     ·have:=g3 (.inl h);rw[hb]at this;exact absurd this (g5 h)
    subst hn0;refine .slice .sealed 0 _ [] 0 0 ao cap (by simp) g2 (fun h=>absurd h (by omega)) (fun _=>by simp) (fun i x h=>by simp at h) (fun i v x _ h=>by simp at h) trivial (fun x h=>by simp at h) (fun v h=>by simp at h)
   | some p =>
    obtain⟨b,o⟩:=p;obtain⟨h8,h9⟩:=h7 b o hb;refine .slice .sealed n _ (xs.take (n*e)) b o ao cap (by rw[List.length_take,List.length_take,h2.1]) g2 (fun hn=>?_) (fun h=>by subst h;simp) (fun i x h=>?_) (fun i v x hv h=>?_) trivial (fun x h=>h5 x (List.mem_of_mem_take h)) (fun v h=>h6 v (List.mem_of_mem_take h))
    ·have:=g3 (.inl hn);rw[hb]at this;simpa using this
    ·have hxs:=hx i x h;have hlt:i<xs.length:=by
      rcases Nat.lt_or_ge i xs.length with h|h
      ·exact h
      ·rw[List.getElem?_eq_none h]at hxs;cases hxs
     exact⟨e2 _ _ (h8 i (by rw[h2.1]at hlt;omega)).lab,h9 i x hxs⟩
    ·exact(h2.2 i v x (hc i v hv) (hx i x h)).ext hE (.refl _)
theorem c5G (hS:Sim ρ lab H w)(hv:Rel ρ lab w v x):∃lab',Ext lab w lab' w/\Sim ρ lab' (frz1 v H).2 w/\Rel ρ lab' w (frz1 v H).1 x:=by
 unfold frz1;split
 ·split
  ·rename_i hk;cases hv with
   | rslice _ _ _ _ base' g ao cap g1 g2 g3 g4 g5=>exact hS.freeze hk (.rslice _ _ _ _ base' g ao cap g1 g2 g3 g4 g5)
  ·exact⟨lab,.refl _ _,hS,hv⟩
 ·exact⟨lab,.refl _ _,hS,hv⟩
theorem c5J:∀(vs:List V) {lab:Lab} {H:Hp} {xs:List Value},Sim ρ lab H w->J2 ρ lab w vs xs -> ∃lab',Ext lab w lab' w/\Sim ρ lab' (b55 vs H).2 w/\J2 ρ lab' w (b55 vs H).1 xs
 | [],lab,H,xs,hS,h=>⟨lab,.refl _ _,hS,h⟩
 | v::r,lab,H,xs,hS,h=>by
  obtain⟨x,xr,rfl,h1,h2⟩:=E9.1 h;obtain⟨l1,k1,k2,k3⟩:=c5G hS h1;obtain⟨l2,m1,m2,m3⟩:=c5J r k2 (h2.ext k1 (.refl _));exact⟨l2,k1.trans m1,m2,E9.2 ⟨x,xr,rfl,k3.ext m1 (.refl _),m3⟩⟩
theorem c5H (hS:Sim ρ lab H w)(hv:Rel ρ lab w v x):∃lab',Ext lab w lab' w/\Sim ρ lab' (frzA v H).2 w/\Rel ρ lab' w (frzA v H).1 x:=by
 unfold frzA;split
 ·cases hv with
  | agg _ xs h1 h2 =>
   obtain⟨l,k1,k2,k3⟩:=c5J _ hS ⟨h1,h2⟩;exact⟨l,k1,k2,.agg _ xs k3.1 k3.2⟩
 ·exact c5G hS hv
theorem c5K:∀(vs:List V) {lab:Lab} {H:Hp} {xs:List Value},Sim ρ lab H w->J2 ρ lab w vs xs -> ∃lab',Ext lab w lab' w/\Sim ρ lab' (frzT vs H).2 w/\J2 ρ lab' w (frzT vs H).1 xs
 | [],lab,H,xs,hS,h=>⟨lab,.refl _ _,hS,h⟩
 | v::r,lab,H,xs,hS,h=>by
  obtain⟨x,xr,rfl,h1,h2⟩:=E9.1 h;obtain⟨l1,k1,k2,k3⟩:=c5H hS h1;obtain⟨l2,m1,m2,m3⟩:=c5K r k2 (h2.ext k1 (.refl _));exact⟨l2,k1.trans m1,m2,E9.2 ⟨x,xr,rfl,k3.ext m1 (.refl _),m3⟩⟩
theorem c5I (hS:Sim ρ lab H w)(hv:Rel ρ lab w v x):∃lab',Ext lab w lab' w/\Sim ρ lab' (b1w b v H).2 w/\Rel ρ lab' w (b1w b v H).1 x:=by
 cases b with
 | false=>exact⟨lab,.refl _ _,hS,hv⟩
 | true =>
  unfold b1w;simp only;split
  ·cases hv with
   | tuple _ xs h1 h2 =>
    obtain⟨l,k1,k2,k3⟩:=c5K _ hS ⟨h1,h2⟩;exact⟨l,k1,k2,.tuple _ xs k3.1 k3.2⟩
  ·exact c5H hS hv
theorem b5k {f nr lp:Nat}{fr fr':Fr}{H':Hp}{arr:Array Value}(hS:Sim ρ lab H w)(hF:a3N ρ lab w fr arr)(h:normal env f nr lp fr H=some (fr',H')) :
  ∃ρ' lab',Sim ρ' lab' H' w/\Ext lab w lab' w/\a2q nr ρ ρ'/\a3N ρ' lab' w fr' arr:=by
 unfold normal at h;split at h
 ·exact b7x hS hF h
 ·rename_i s hs;simp only[b66,b1q]at h;obtain⟨l1,k1,k2,k3⟩:=c5I (b:=true) hS (hF s);have hF2:a3N ρ l1 w ((s,(b1w true (look s fr) H).1)::fr) arr:=fun t=>by
   rw[b3h];split
   ·rename_i he;subst he;exact k3
   ·exact(hF t).ext k1 (.refl _)
  obtain⟨ρ',lab',g1,g2,g3,g4⟩:=b7x k2 hF2 h;exact⟨ρ',lab',g1,k1.trans g2,g3,g4⟩
theorem b0c {α β:Type}{f g:α->Option β}(hfg:∀a b,f a=some b->g a=some b):∀{l:List α} {r:List β},a1m f l=some r->a1m g l=some r
 | [],r,h=>h
 | a::t,r,h=>by
  simp only[a1m]at h ⊢;cases h1:f a with
  | none=>rw[h1]at h;cases h
  | some b =>
   rw[h1]at h;simp only at h;rw[hfg a b h1];cases h2:a1m f t with
   | none=>rw[h2]at h;cases h
   | some u=>rw[h2]at h;rw[b0c hfg h2];exact h
theorem b9F {m m':Nat->Option Nat}(hm:∀k i,m k=some i->m' k=some i):∀(d:Nat) {v v':V},a1D m d v=some v'->a1D m' d v=some v'
 | 0,v,v',h=>by cases h
 | d+1,v,v',h=>by
  have ih:∀a b,a1D m d a=some b->a1D m' d a=some b:=fun a b h=>b9F hm d h;cases v with
  | ptr r o=>simp only[a1D]at h ⊢;(split at h;(· rename_i hr;rw[hm _ _ hr];exact h);(· cases h))
  | rslice r o n w=>simp only[a1D]at h ⊢;(split at h;(· rename_i hr;rw[hm _ _ hr];exact h);(· cases h))
  | map r=>simp only[a1D]at h ⊢;(split at h;(· rename_i hr;rw[hm _ _ hr];exact h);(· cases h))
  | slice o n cs =>
   cases o with
   | tag g=>simp only[a1D]at h ⊢;(split at h;(· rename_i hr;rw[hm _ _ hr];exact h);(· cases h))
   | _=>exact h
  | func fn a b =>
   simp only[a1D]at h ⊢;split at h
   ·rename_i h1 h2;rw[b0c ih h1,b0c ih h2];exact h
   ·cases h
  | iface t v =>
   simp only[a1D]at h ⊢;split at h
   ·rename_i h1;rw[ih _ _ h1];exact h
   ·cases h
  | agg cs =>
   simp only[a1D]at h ⊢;split at h
   ·rename_i h1;rw[b0c ih h1];exact h
   ·cases h
  | tuple cs =>
   simp only[a1D]at h ⊢;split at h
   ·rename_i h1;rw[b0c ih h1];exact h
   ·cases h
  | _=>exact h
def Done (ρ:Rho)(lab:Lab)(H:Hp)(w:World)(v:V)(H':Hp)(x:Value)(w':World):Prop :=∃ρ' lab',Sim ρ' lab' H' w'/\Ext lab w lab' w'/\a2q H.length ρ ρ'/\Rel ρ' lab' w' v x/\Canon 0 H'/\H.length<=H'.length
def a8y (ρ:Rho)(lab:Lab)(H:Hp)(w:World):Out->Ending->World->Prop | .ret v H',.returned x,w'=>Done ρ lab H w v H' x w' | .pan v H',.panicked ch,w'=>∃x,ch=[{v:=x,recovered:=false}]/\Done ρ lab H w v H' x w'|_,_,_=>False
structure a9D (P:Program)(orc:Orc):Prop where
 call:∀g args H out,orc (.call g args) H=some out -> ∀ρ lab w xs,Canon 0 H->Sim ρ lab H w->J2 ρ lab w args xs->Calls P g xs.toArray w (a8y ρ lab H w out)
 known:∀g args H out,orc (.call g args) H=some out -> ∃fn c,P.funcs[g]? = some fn/\(fn.name == "runtime.NumGoroutine")=false/\fn.body=some c
def Left (ρ:Rho)(lab:Lab)(w:World)(v:V)(H':Hp)(x:Value)(w':World):Prop:=∃ρ' lab',Sim ρ' lab' H' w'/\Ext lab w lab' w'/\ρ.le ρ'/\Rel ρ' lab' w' v x
def b6e (ρ:Rho)(lab:Lab)(w:World):OpR->Ending->World->Prop | .val v H',.returned x,w'=>Left ρ lab w v H' x w' | .pan v H',.panicked ch,w'=>∃x,ch=[{v:=x,recovered:=false}]/\Left ρ lab w v H' x w'|_,_,_=>False
theorem b5Z (hO:a9D P orc)(hS:Sim ρ lab H w)(hx:J2 ρ lab w args xs)(h:a15 orc g args H=some r) :
  Calls P g xs.toArray w (b6e ρ lab w r) /\ ∃fn c,P.funcs[g]? = some fn/\(fn.name == "runtime.NumGoroutine")=false/\fn.body=some c:=by
 unfold a15 at h;split at h
 ·cases h
 ·rename_i Y3 hm;split at h
  ·rename_i v ho;split at h
   ·rename_i v4 hv4;cases h;have hp:a6k H (idx · []) [] 0=some []:=rfl;have hS2:=hS.sub List.nodup_nil hp;have hi:(idx · [])=a4J:=rfl;rw[<-hi]at hm;have hx2:J2 (ρ.sub []) (lab.sub []) w Y3 xs:=hx.b9O.ren (b4Q []) hm;refine⟨(hO.call _ _ _ _ ho (ρ.sub []) (lab.sub []) w xs trivial hS2 hx2).mono (fun e w' he=>?_),hO.known _ _ _ _ ho⟩;cases e with
    | returned x =>
     obtain⟨ρ3,lab3,S3,E3,R3,hv3,c4,hl⟩:=he;have hR:Ren a4J ρ3 ρ3 lab3 lab3:=⟨fun _ _ _ h=>(by cases h),fun _ _ _ _ h=>(by cases h),fun _ _ h=>h⟩
     have hv5:=Rel.ren hR dep hv4 hv3;have hR2:∀k i,a4J k=some i->J3 [] 0 k=some i:=fun _ _ h=>(by cases h)
     have hv6:a1D (J3 [] 0) dep v=some v4:=b9F hR2 dep hv4;exact b7s (k:=0) hS List.nodup_nil (fun i j hj=>by simp at hj) (Nat.zero_le 0) (.refl _) S3 E3 R3 c4 hl hv3 hv6 rfl rfl
    | panicked ch=>exact he.elim
    | outgrown=>exact he.elim
   ·cases h
  ·cases h
theorem c1X {H3:Hp}{m:Nat}(h:a4e H H3 k m=true):b0M H k (H3.length-m)=true:=by
 simp only[a4e,Bool.and_eq_true]at h;exact h.2
theorem b3Z (hO:a9D P orc) (hS:Sim ρ lab H w) (hx:J2 ρ lab w args xs) (h:Y4 env orc k g args H = some r) :
    Calls P g xs.toArray w (b6e ρ lab w r) /\ ∃fn c,P.funcs[g]? = some fn/\(fn.name == "runtime.NumGoroutine")=false/\fn.body=some c:=by
  unfold Y4 at h;split at h
  · exact b5Z hO hS hx h
  simp only at h;have hx1:J2 ρ lab w (a2v (env.argTags g) (env.a7K g) args) xs:=by
    unfold a2v;split
    · exact hx.c6z
    · exact hx.b9O
  generalize a2v (env.argTags g) (env.a7K g) args=b6I at h hx1;generalize hns:reach H 99 (b6I.flatMap (a1i dep)) []=ns at h;have hn:ns.Nodup:=by rw[<-hns];exact a6l _ _ _ _ List.nodup_nil
  split at h
  · rename_i Y3 H2 hm hp
    obtain⟨c1,c2,c3⟩:=b0x hp;have hS2:=hS.sub hn hp;have hx2:J2 (ρ.sub ns) (lab.sub ns) w Y3 xs:=hx1.ren (b4Q ns) hm;have hk2:ns.length <=(a3M (env.argTags g) Y3 ns.length).2:=by
      unfold a3M;split
      · exact a6m _ _
      · exact Nat.le_refl _
    have htg:∀ ρn:Rho,(ρ.sub ns).le ρn -> (∀ j,ns.length <= j -> j < (a3M (env.argTags g) Y3 ns.length).2 -> ρn.hd j 0 = some (none,0)) ->
        J2 ρn (lab.sub ns) w (a3M (env.argTags g) Y3 ns.length).1 xs:=by
      intro ρn hle hh;unfold a3M at hh ⊢;split at hh
      · exact b0E hle _ _ _ hh hx2
      · exact hx2.up hle
    generalize a3M (env.argTags g) Y3 ns.length=aa at h hk2 htg;have hmr:=a4l H2 aa.2;obtain⟨ρn,k1,_,k3,k4,k5,k6⟩:=hS2.b1x c1 (G:=[]) (k2:=aa.2) trivial (fun j o h=>by cases h) (by rw[List.length_nil,c2];exact hk2);simp only[List.length_nil,Nat.add_zero,List.append_nil,c2]at k3 k4 k5 k6;generalize hHc:(U4 H2 aa.2).1++b3F ns.length ((U4 H2 aa.2).2-ns.length)=Hc at h k4 k5 k6;have hx3:=htg ρn k1 (fun j h1 h2=>k3 j h1 (by omega));obtain⟨ρf,f1,f2,f3,f4,f5⟩:=fullC_ok (b:=env.full) k4 k5 hx3;have k4:=f2;have k5:=f3;have k1:=k1.trans f1;have hx3:=f4;have k6:=Nat.le_trans k6 f5;generalize b2p env.full aa.1 Hc=cc at h k4 k5 hx3 k6;have hpick:∀i j:Nat,ns[i]? = some j->hget j H≠none:=fun i j hj=>by
      obtain⟨o,o',g1,_⟩:=c3 i j hj;rw[g1];simp
    split at h
    · rename_i v H3 ho
      split at h
      · rename_i v4 H4 hv4 hm4
        split at h
        · rename_i hf
          cases h;refine⟨(hO.call _ _ _ _ ho ρf (lab.sub ns) w xs k5 k4 hx3).mono (fun e w' he=>?_),hO.known _ _ _ _ ho⟩;cases e with
          | returned x =>
            obtain⟨ρ3,lab3,S3,E3,R3,hv3,c4,hl⟩:=he;exact b7s hS hn hpick k6 k1 S3 E3 R3 c4 hl hv3 hv4 hm4 (c1X hf)
          | panicked ch=>exact he.elim
          | outgrown=>exact he.elim
        · cases h
      · cases h
    · rename_i v H3 ho
      split at h
      · rename_i v4 H4 hv4 hm4
        split at h
        · rename_i hf
          cases h;refine⟨(hO.call _ _ _ _ ho ρf (lab.sub ns) w xs k5 k4 hx3).mono (fun e w' he=>?_),hO.known _ _ _ _ ho⟩;cases e with
          | returned x=>exact he.elim
          | panicked ch =>
            obtain⟨x,hch,ρ3,lab3,S3,E3,R3,hv3,c4,hl⟩:=he;exact⟨x,hch,b7s hS hn hpick k6 k1 S3 E3 R3 c4 hl hv3 hv4 hm4 (c1X hf)⟩
          | outgrown=>exact he.elim
        · cases h
      · cases h
    · cases h
  · cases h
theorem Sim.same {A B:Hp}(hS:Sim ρ lab A w)(h:∀k,hget k A=hget k B):Sim ρ lab B w where
 kp:=hS.kp
 row:=fun k cs hk=>hS.row k cs (by rw[h];exact hk)
 grow:=fun k e cs hk=>hS.grow k e cs (by rw[h];exact hk)
 tip:=fun k e n hk=>hS.tip k e n (by rw[h];exact hk)
 mp:=fun k es hk=>hS.mp k es (by rw[h];exact hk)
 hdom:=fun k n x hx=>by
  obtain⟨e,m,h1,h2⟩:=hS.hdom k n x hx;exact⟨e,m,by rw[<-h];exact h1,h2⟩
 adom:=fun k x hx=>by rw[<-h];exact hS.adom k x hx
 ldom:=hS.ldom
theorem c4m {r':OpR}(h:c2s H r=some r'):∃v H4,r=.val v H4/\r'=.val v H /\ ∀k,hget k H4=hget k H:=by
 unfold c2s at h;split at h
 ·rename_i v H4;split at h
  ·rename_i hs;cases h;exact⟨v,H4,rfl,rfl,c7H hs⟩
  ·cases h
 ·cases h
theorem a7b (h:a2r env orc k g args H=some r) :
  (Y4 env orc k g args H=some r/\(env.quiet g=true∨env.look g=false))∨(env.quiet g=false/\env.look g=true /\ ∃v H4,Y4 env orc k g args H=some (.val v H4)/\r=.val v H /\ ∀k,hget k H4=hget k H):=by
 unfold a2r at h;split at h
 ·rename_i hq;left;refine⟨?_,.inl hq⟩;unfold Y4;rw[hq];exact h
 ·rename_i hq;split at h
  ·rename_i hl;exact .inl ⟨h,.inr hl⟩
  ·rename_i hl;split at h
   ·rename_i r0 hr;obtain⟨v,H4,rfl,h2,h3⟩:=c4m h;exact .inr ⟨hq,hl,v,H4,hr,h2,h3⟩
   ·cases h
theorem callW_ok (hO:a9D P orc)(hS:Sim ρ lab H w)(hx:J2 ρ lab w args xs)(h:a2r env orc k g args H=some r) :
  Calls P g xs.toArray w (b6e ρ lab w r) /\ ∃fn c,P.funcs[g]? = some fn/\(fn.name == "runtime.NumGoroutine")=false/\fn.body=some c:=by
 rcases a7b h with⟨h1,_⟩ |⟨_,_,v,H4,h1,rfl,h3⟩
 ·exact b3Z hO hS hx h1
 ·obtain⟨k1,k2⟩:=b3Z hO hS hx h1;refine⟨k1.mono fun e w' he=>?_,k2⟩;cases e with
  | returned x =>
   obtain⟨ρ',lab',s1,s2,s3,s4⟩:=he;exact⟨ρ',lab',s1.same h3,s2,s3,s4⟩
  | panicked ch=>exact he.elim
  | outgrown=>exact he.elim
theorem b9G {f:FuncId} {fn:Func} {c:Code} (hf:P.funcs[f]? = some fn) (hname:(fn.name == "runtime.NumGoroutine")=false) (hb:fn.body=some c) (args:Array Value) (w:World) :
  (callFunc f args).run P w=.ok (.enter f args) w:=by
 have h1:fn.name ≠ "runtime.NumGoroutine":=by simpa using hname
 simp[callFunc,hf,h1,hb]
def Post (nr n:Nat)(ρ:Rho)(lab:Lab)(w:World)(r:Res)(e:Exit)(a:Act)(w':World):Prop :=
 ∃ρ' lab',Sim ρ' lab' r.2.2 w'/\Ext lab w lab' w'/\a2q nr ρ ρ'/\a.defers=[] /\
  match r.1,e with
  | .normal,.normal=>FOk ρ' lab' w' r.2.1 a n
  | .ret,.ret=>FOk ρ' lab' w' r.2.1 a n
  | .exit i,.exit j=>i=j/\FOk ρ' lab' w' r.2.1 a n
  | .panic v,.panic ch=>∃x,ch=[{v:=x,recovered:=false}]/\Rel ρ' lab' w' v x
  | _,_=>False
theorem Post.trans {lab':Lab}{w'':World}{r:Res}{e:Exit}(E:Ext lab w lab' w')(R:a2q nr ρ ρ')(h:Post nr n ρ' lab' w' r e a w''):Post nr n ρ lab w r e a w'':=by
 obtain⟨ρ2,lab2,h1,h2,h3,h4⟩:=h;exact⟨ρ2,lab2,h1,E.trans h2,R.trans h3 (Nat.le_refl _),h4⟩
def methB (P:Program)(t:Nat)(name:String)(g:Nat):Bool:=match P.info? t,P.underlying t with
 | some i,some d=>match i.methods.find? (·.name==name)with
  | none=>false
  | some m=>m.path.isEmpty&&(match m.func,d with
   | some (f,true),.pointer _=>Nat.beq f g
   | some (_,false),.pointer _=>false
   | some (f,false),_=>Nat.beq f g
   | _,_=>false)
 | _,_=>false
theorem c4p {P:Program}{t:Nat}{name:String}(h:methB P t name g=true)(n:Nat)(v:Value)(w:World):(method (n+1) t v name).run P w=.ok (g,v) w:=by
 unfold methB at h;split at h
 ·rename_i i d hi hd;split at h
  ·cases h
  ·rename_i m hm;simp only[Bool.and_eq_true]at h;obtain⟨h1,h2⟩:=h;have hp:m.path.toList=[]:=by
    have:m.path = #[]:=by simpa using h1
    simp[this]
   have ht:=a5t hi w;have hu:=I6 hd w;split at h2
   ·rename_i f _ hf;have:=Nat.eq_of_beq_eq_true h2;subst this;unfold method;simp only[Sem.run_bind,ht,Result.andThen_ok,hm,hp,follow,Sem.run_pure,hf,receiverAt,hu,Place.get]
   ·cases h2
   ·rename_i f hf hnp;have:=Nat.eq_of_beq_eq_true h2;subst this;unfold method;simp only[Sem.run_bind,ht,Result.andThen_ok,hm,hp,follow,Sem.run_pure,hf,receiverAt,hu];first
     | rfl
     |(rename_i d1 _ _ _;cases d1<;>first|exact absurd rfl (hnp _)|rfl)
     |(rename_i d1 _ _;cases d1<;>first|exact absurd rfl (hnp _)|rfl)
     |(rename_i d1 _;cases d1<;>first|exact absurd rfl (hnp _)|rfl)
     |(rename_i d1 _ _ _ _;cases d1<;>first|exact absurd rfl (hnp _)|rfl)
   ·cases h2
 ·cases h
def a8z (env:Env):Prop:=∀t name g,env.meth t name=some g->methB env.P t name g=true
theorem call_run (hM:a8z env)(hO:a9D env.P orc)(hS:Sim ρ lab H w)(hF:a3N ρ lab w fr a.tmps)(hc:b6n o.op=true)(h:V5 env orc fr H o=some r) :
  ∃g args,(execOp a.eval o).run env.P w=.ok (.enter g args) w/\Calls env.P g args w (b6e ρ lab w r):=by
 obtain⟨dst,op,type,pos,after,guard⟩:=o;unfold V5 at h;simp only at h hc;split at h<;>try(cases hc;done)
 ·rename_i f args at_;split at h
  ·rename_i g first captured l hf hl
   have hb:=Y7 hF hf;generalize hcv:a.eval f=cv at hb;cases hb with
   | func _ _ _ xs ys h1 h2 h3 h4 =>
   have hl':=c0f hF hl;have hr:J2 ρ lab w (first++l++captured) (xs++args.toList.map a.eval++ys):=J2.append (J2.append ⟨h1,h3⟩ hl') ⟨h2,h4⟩;obtain⟨k1,fn,c,k2,k3,k4⟩:=callW_ok hO hS hr h;refine⟨g,_,?_,k1⟩;simp only[execOp,resolve,hcv,Deferred.ofValue,Sem.run_bind,Sem.run_pure,Result.andThen_ok,invoke];rw[b9G k2 k3 k4];congr 2;simp
  ·cases h
 ·rename_i rc m args at_;split at h
  ·rename_i t v l hr hl;split at h
   ·rename_i g hg;have hb:=Y7 hF hr;generalize hcv:a.eval rc=cv at hb;cases hb with
    | iface _ _ x hx =>
    have hl':=c0f hF hl;have hrl:J2 ρ lab w (v::l) (x::args.toList.map a.eval):=E9.2 ⟨_,_,rfl,hx,hl'⟩;obtain⟨k1,fn,c,k2,k3,k4⟩:=b3Z hO hS hrl h;refine⟨g,_,?_,k1⟩;have hm:=fun w=>c4p (hM t m g hg) (env.P.types.size+(Made.depth-1)) x w;have hd:env.P.types.size+(Made.depth-1)+1=env.P.types.size+Made.depth:=by simp[Made.depth]
    rw[hd]at hm;simp only[execOp,resolve,hcv,Sem.run_bind,Sem.run_pure,Result.andThen_ok,invoke];simp only[Array.getElem?_append,Array.size_singleton,Nat.zero_lt_one,if_true,List.getElem?_toArray,List.getElem?_cons_zero,callMethod,Sem.run_bind,run_program,Result.andThen_ok,hm];rw[show(#[x] ++(#[Value.iface t x]++Array.map a.eval args).extract 1 (#[Value.iface t x]++Array.map a.eval args).size) =(x::args.toList.map a.eval).toArray from ?_]
    ·exact b9G k2 k3 k4 _ _
    ·apply Array.ext';simp[Array.toList_extract];exact List.take_of_length_le (by simp)
   ·cases h
  ·cases h
 ·cases h
theorem Oper.wp_ok {next:Act->World->Prop}{Q:Exit->Act->World->Prop}{x:Next}(h:(execOp a.eval o).run P w=.ok x w')(hq:o.upon P a next Q (.ok x w')):o.wp P a w next Q:=by
 unfold Oper.wp;rw[h];exact hq
theorem b0U (hM:a8z env)(hT:TOk env.P env.T)(hO:a9D env.P orc){ops:Array Oper}{Q:Exit->Act->World->Prop}(hdst:∀(i:Nat) (o:Oper) (d:Nat),ops[i]? = some o->o.dst=some d->d<n) :
  ∀(l:List Nat) (ρ:Rho) (lab:Lab) (w:World) (H:Hp) (fr:Fr) (a:Act) (r:Res),J5 env orc ops (l.filterMap (ops[·]?)) fr H=some r->Sim ρ lab H w->FOk ρ lab w fr a n ->
   (∀e a' w',Post nr n ρ lab w r e a' w'->Q e a' w')->wpOps env.P ops Q l a w
 | [],ρ,lab,w,H,fr,a,r,h,hS,hF,hQ=>by
  simp only[List.filterMap_nil,J5]at h;cases h;exact hQ _ _ _ ⟨ρ,lab,hS,.refl _ _,a2q.of_le (.refl _) _,hF.defers,hF⟩
 | i::l,ρ,lab,w,H,fr,a,r,h,hS,hF,hQ=>by
  unfold wpOps;cases ho:ops[i]? with
  | none =>
   simp only[List.filterMap_cons,ho]at h;exact b0U hM hT hO hdst l ρ lab w H fr a r h hS hF hQ
  | some o =>
   simp only[List.filterMap_cons,ho,J5]at h;have hd:=fun d=>hdst i o d ho;simp only;cases hw:E5 ops o fr with
   | none=>rw[hw]at h;cases h
   | some b =>
    have hw2:=c73 hF hw;rw[hw]at h;rw[hw2];cases b with
    | false =>
     simp only[Bool.false_eq_true,if_false]at h ⊢;exact b0U hM hT hO hdst l ρ lab w H _ _ r h hS (hF.put hd (.tuple [] [] rfl (by simp))) hQ
    | true =>
     simp only[if_true]at h ⊢;refine .inl ?_;unfold O0 at h;cases hp:O1 o.op with
     | true =>
      rw[hp]at h;simp only at h;cases hv:a0j env.T fr o.op with
      | none=>rw[hv]at h;cases h
      | some v =>
       rw[hv]at h;simp only at h;obtain⟨x,w1,h1,h2,h3⟩:=pure_ok hT hS.ldom hF.rel hv;refine Oper.wp_ok h1 ?_;have E:=h2.ext lab;refine b0U hM hT hO hdst l ρ lab w1 H _ _ r h (hS.grew h2) ((hF.ext E (.refl _)).put hd h3) (fun e a' w' hq=>hQ e a' w' (hq.trans E (a2q.of_le (.refl _) _)))
     | false =>
      rw[hp]at h;simp only at h;cases hv:V5 env orc fr H o with
      | none=>rw[hv]at h;cases h
      | some res =>
       rw[hv]at h;cases hcv:b6n o.op with
       | false =>
        cases res with
        | val v H1 =>
         simp only at h;obtain⟨nx,x,w1,ρ1,a3R,h1,h2,h3,h4,h5,h6⟩:=eff_run hT hS hF.rel hcv hv;have key:wpOps env.P ops Q l (a.put o.dst x) w1 :=
          b0U hM hT hO hdst l ρ1 a3R w1 H1 _ _ r h h3 ((hF.ext h4 h5).put hd h6) (fun e a' w' hq=>hQ e a' w' (hq.trans h4 (a2q.of_le h5 _)))
         refine Oper.wp_ok h1 ?_;rcases h2 with rfl |⟨rfl,rfl⟩
         ·exact key
         ·exact key
        | pan v H1 =>
         simp only at h;cases h;obtain⟨x,h1,rfl,h2⟩:=c7h hF.rel hcv hv;unfold Oper.wp;rw[h1];exact hQ _ _ _ ⟨ρ,lab,hS,.refl _ _,a2q.of_le (.refl _) _,hF.defers,x,rfl,h2⟩
       | true =>
        obtain⟨g,args,h1,h2⟩:=call_run hM hO hS hF.rel hcv hv;refine Oper.wp_ok h1 ?_;rw[Oper.upon_enter];refine h2.mono (fun e w1 he=>?_);cases res with
        | val v H1 =>
         cases e with
         | returned x =>
          obtain⟨ρ1,a3R,h3,h4,h5,h6⟩:=he;exact b0U hM hT hO hdst l ρ1 a3R w1 H1 _ _ r h h3 ((hF.ext h4 h5).put hd h6) (fun e a' w' hq=>hQ e a' w' (hq.trans h4 (a2q.of_le h5 _)))
         | panicked ch=>exact he.elim
         | outgrown=>exact he.elim
        | pan v H1 =>
         simp only at h;cases h;cases e with
         | returned x=>exact he.elim
         | panicked ch =>
          obtain⟨x,rfl,ρ1,a3R,h3,h4,h5,h6⟩:=he;exact hQ _ _ _ ⟨ρ1,a3R,h3,h4,a2q.of_le h5 _,hF.defers,x,rfl,h6⟩
         | outgrown=>exact he.elim
end
variable {f1:Fr} {H' H1:Hp} {l:List Oper} {t:Nat} {o:Oper} {v:V}
section
variable {env:Env} {orc:Orc} {fr fr':Fr} {H:Hp} {T:List (Nat×Ty)} {ops:Array Oper}
def a8L (env:Env):Op->Bool | .load ..=>true | .call {callee:=.value (.func g),.. }=>env.quiet g||env.look g|_=>false
def isLd (o:Oper):Bool:=match a3S o with
 | some _=>true
 | none=>false
def b8W (env:Env)(ops:Array Oper)(b:Bool)(x y:Oper):Bool:=x.apart ops y&&((O1 x.op||O1 y.op ||(a8L env x.op&&a8L env y.op)) ||(b&&(isLd x||isLd y ||(a3z x&&a3z y))))
def c0X (ops:Array Oper):Nat->Nat->Nat->Bool
 | 0,_,_=>false
 | d+1,i,j=>match ops[i]? with
  | none=>false
  | some o=>o.after.toList.any fun e=>Region.binds .any e&&(Nat.beq e.on j||c0X ops d e.on j)
def b5b (ops:Array Oper):Bool:=(List.range ops.size).all fun i=>match ops[i]? with
 | none=>true
 | some o=>o.after.toList.all fun e=>!Region.binds .any e||Nat.blt e.on i
def c4z (env:Env)(ops:Array Oper)(b:Bool):Bool:=(List.range ops.size).all fun i=>(List.range i).all fun j=>match ops[j]?,ops[i]? with
 | some x,some y=>b8W env ops b x y||c0X ops 8 i j
 | _,_=>true
def safeB:List Oper->Bool
 | []=>true
 | o::r=>(match a3S o with
  | some t=>(o::r).all fun z=>match z.dst with|some d=>!Nat.beq d t|none=>true
  | none=>true)&&safeB r
def drawB (env:Env)(ops:Array Oper)(b:Bool):Bool:=b5b ops&&c4z env ops b&&(!b||safeB ops.toList)
def a9e (a b:Fr):Prop:=∀t,look t a=look t b
theorem a9e.refl (a:Fr):a9e a a:=fun _=>rfl
theorem a9e.trans {a b c:Fr}(h:a9e a b)(g:a9e b c):a9e a c:=fun t=>(h t).trans (g t)
theorem a3j (d:Option Nat)(v:V)(fr:Fr)(t:Nat):look t (V9 d v fr)=if d=some t then v else look t fr:=by
 cases d with
 | none=>simp[V9]
 | some d=>simp only[V9,b3h,Option.some.injEq]
theorem a4H {α β:Type}{f g:α->Option β}:∀{l:List α},(∀a∈l,f a=g a)->a1m f l=a1m g l
 | [],_=>rfl
 | a::t,h=>by simp only[a1m];rw[h a (List.mem_cons_self ..),a4H (fun b hb=>h b (List.mem_cons_of_mem _ hb))]
theorem b8Y {l:List (Nat×Operand)}(h:∀x∈l.map (·.2),ev fr x=ev fr' x):evP fr l=evP fr' l:=by
 unfold evP;exact a4H fun p hp=>by rw[h p.2 (List.mem_map_of_mem hp)]
theorem b5c {o:Option Operand}(h:∀x∈o.toList,ev fr x=ev fr' x):evX fr o=evX fr' o:=by
 cases o with
 | none=>rfl
 | some x=>simp only[evX];rw[h x (by simp)]
theorem b54 {op:Op}(h:∀x∈op.operands.toList,ev fr x=ev fr' x):a0j T fr op=a0j T fr' op:=by
  cases op with
  | build t ps=>simp only[a0j];rw[b8Y (fr:=fr) (fr':=fr') fun x hx=>h x (by simpa [Op.operands]using hx)]
  | buildSlice t n ps=>simp only[a0j];rw[b8Y (fr:=fr) (fr':=fr') fun x hx=>h x (by simpa [Op.operands]using hx)]
  | makeFunc fn a b =>
    simp only[a0j,evL];rw[a4H (f:=ev fr) (g:=ev fr') fun x hx=>h x (by simp only[Op.operands,Array.toList_append,List.mem_append];exact .inl hx),
      a4H (f:=ev fr) (g:=ev fr') fun x hx=>h x (by simp only[Op.operands,Array.toList_append,List.mem_append];exact .inr hx)]
  | slice t x lo hi mx =>
    simp only[a0j];rw[h x (by simp[Op.operands]),b5c (o:=lo) (fr:=fr) (fr':=fr') fun y hy=>h y (by simp[Op.operands];simp at hy;simp[hy]),
      b5c (o:=hi) (fr:=fr) (fr':=fr') fun y hy=>h y (by simp[Op.operands];simp at hy;simp[hy]),
      b5c (o:=mx) (fr:=fr) (fr':=fr') fun y hy=>h y (by simp[Op.operands];simp at hy;simp[hy])]
  | call c =>
    obtain⟨callee,args,argTypes⟩:=c;cases callee with
    | builtin b =>
      have h':∀x∈args.toList,ev fr x=ev fr' x:=fun x hx=>h x (by simpa [Op.operands,Call.operands]using hx);generalize hl:args.toList=l at h';cases b<;>simp only[a0j,hl]<;>first
        | rfl
        | (cases l with
           | nil=>rfl
           | cons a r =>
             cases r with
             | nil =>
               have ha:=h' a (by simp);generalize argTypes.toList=u;cases u<;>first|rfl|simp only[ha]
             | cons b r =>
               cases r with
               | nil=>first|rfl|simp only[h' a (by simp),h' b (by simp)]
               | cons c r=>rfl)
    | _=>rfl
  | _ =>
    simp only[Op.operands]at h;simp only[a0j]<;>first
      | rfl
      |(simp at h;simp only[h])
theorem b5W (h:∀x∈o.op.operands.toList,ev fr x=ev fr' x):V5 env orc fr H o=V5 env orc fr' H o:=by
  obtain⟨dst,op,type,pos,after,guard⟩:=o;cases op with
  | call c =>
    obtain⟨callee,args,argTypes⟩:=c;cases callee with
    | builtin b =>
      have h':∀x∈args.toList,ev fr x=ev fr' x:=fun x hx=>h x (by simpa [Op.operands,Call.operands]using hx);generalize hl:args.toList=l at h';cases b<;>simp only[V5,hl]<;>first
        | rfl
        | (cases l with
           | nil=>rfl
           | cons a r =>
             cases r with
             | nil=>rfl
             | cons b r =>
               cases r with
               | nil =>
                 have ha:=h' a (by simp);have hb:=h' b (by simp);generalize argTypes.toList=u;rcases u with _ |⟨t,_ |⟨u2,_|_⟩⟩<;>first|rfl |(simp only[ha,hb];done) |(simp only[ha,hb];rfl)
               | cons c r=>rfl)
    | value f =>
      simp only[V5,evL];rw[h f (by simp[Op.operands,Call.operands]),a4H (f:=ev fr) (g:=ev fr') fun x hx=>h x (by simp[Op.operands,Call.operands];exact .inr (by simpa using hx))]
    | invoke r m =>
      simp only[V5,evL];rw[h r (by simp[Op.operands,Call.operands]),a4H (f:=ev fr) (g:=ev fr') fun x hx=>h x (by simp[Op.operands,Call.operands];exact .inr (by simpa using hx))]
  | makeMap t r =>
    cases r with
    | none=>rfl
    | some c =>
      simp only[V5,newName];rw[h c (by simp[Op.operands])]
  | _ =>
    simp only[Op.operands]at h;simp only[V5,newName]<;>first
      | rfl
      |(simp at h;simp only[h];done)
      |(simp at h;simp only[h];rfl)
def opV (env:Env)(orc:Orc)(ops:Array Oper)(o:Oper)(fr:Fr)(H:Hp):Option (V×Hp) :=
 match E5 ops o fr with
 | none=>none
 | some false=>some (.tuple [],H)
 | some true=>match O0 env orc fr H o with
  | some (.val v H)=>some (v,H)
  | _=>none
theorem a0Q {r:List Oper}:J5 env orc ops (o::r) fr H=some (.normal,f1,H1) ↔ ∃v H',opV env orc ops o fr H=some (v,H')/\J5 env orc ops r (V9 o.dst v fr) H'=some (.normal,f1,H1):=by
 simp only[J5,opV];cases E5 ops o fr with
 | none=>simp
 | some b =>
  have key:∀(v:V) (K:Hp),(J5 env orc ops r (V9 o.dst v fr) K=some (.normal,f1,H1)) ↔ ∃v' H',some (v,K)=some (v',H')/\J5 env orc ops r (V9 o.dst v' fr) H'=some (.normal,f1,H1) :=
   fun v K=>⟨fun h=>⟨v,K,rfl,h⟩,fun⟨v',H',h1,h2⟩=>by cases h1;exact h2⟩
  cases b with
  | false=>exact key _ _
  | true =>
   simp only;cases O0 env orc fr H o with
   | none=>simp
   | some x =>
    cases x with
    | val v H'=>exact key _ _
    | pan v H'=>simp
theorem b5n (h:∀t∈o.looksAt ops,look t fr=look t fr'):opV env orc ops o fr H=opV env orc ops o fr' H:=by
 have hop:∀x∈o.op.operands.toList,ev fr x=ev fr' x:=by
  intro x hx;cases x with
  | tmp t=>simp only[ev];rw[h t (List.mem_append_left _ (List.mem_filterMap.2 ⟨.tmp t,hx,rfl⟩))]
  | _=>rfl
 have hw:E5 ops o fr=E5 ops o fr':=by
  unfold E5;cases hg:o.guard with
  | none=>rfl
  | some p =>
   obtain⟨j,want⟩:=p;simp only[b25];cases hd:(ops[j]?).bind (·.dst)with
   | none=>rfl
   | some t=>simp only;rw[h t (by simp[Oper.looksAt,hg,hd])]
 simp only[opV,hw,O0,b54 hop,b5W hop]
theorem b7B (hp:O1 o.op=true)(h:opV env orc ops o fr H=some (v,H')):H'=H /\ ∀H2,opV env orc ops o fr H2=some (v,H2):=by
 simp only[opV,O0,hp]at h ⊢;cases hw:E5 ops o fr with
 | none=>rw[hw]at h;cases h
 | some b =>
  rw[hw]at h;cases b with
  | false=>simp only[Option.some.injEq,Prod.mk.injEq]at h;obtain⟨rfl,rfl⟩:=h;exact⟨rfl,fun _=>rfl⟩
  | true =>
   simp only at h ⊢;cases hv:a0j env.T fr o.op with
   | none=>rw[hv]at h;cases h
   | some u=>rw[hv]at h;simp only[Option.some.injEq,Prod.mk.injEq]at h;obtain⟨rfl,rfl⟩:=h;exact⟨rfl,fun _=>rfl⟩
theorem c4t (hp:a8L env o.op=true)(h:V5 env orc fr H o=some (.val v H')):H'=H:=by
 obtain⟨dst,op,type,pos,after,guard⟩:=o;unfold a8L at hp;simp only at hp;split at hp
 ·simp only[V5]at h;split at h
  ·split at h
   ·cases h;rfl
   ·cases h
  ·cases h
 ·rename_i g args argTypes;simp only[V5,ev]at h;split at h
  ·rename_i g' first captured l hf hl
   simp only[Option.some.injEq,V.func.injEq,Fn.func.injEq]at hf;obtain⟨rfl,_,_⟩:=hf;rcases a7b h with⟨h1,h2⟩ |⟨_,_,v',H4,h1,h2,_⟩
   ·have hq:env.quiet g=true:=by
     rcases h2 with h2|h2
     ·exact h2
     ·rw[h2,Bool.or_false]at hp;exact hp
    simp only[Y4,hq,a15]at h1;split at h1
    ·cases h1
    ·split at h1
     ·split at h1
      ·cases h1;rfl
      ·cases h1
     ·cases h1
   ·cases h2;rfl
  ·cases h
 ·cases hp
theorem b7A (hp:a8L env o.op=true)(h:opV env orc ops o fr H=some (v,H')):H'=H:=by
 simp only[opV,O0]at h;cases hw:E5 ops o fr with
 | none=>rw[hw]at h;cases h
 | some b =>
  rw[hw]at h;cases b with
  | false=>simp only[Option.some.injEq,Prod.mk.injEq]at h;exact h.2.symm
  | true =>
   simp only at h;cases hq:O1 o.op with
   | true =>
    rw[hq]at h;simp only at h;cases hv:a0j env.T fr o.op with
    | none=>rw[hv]at h;cases h
    | some u=>rw[hv]at h;simp only[Option.some.injEq,Prod.mk.injEq]at h;exact h.2.symm
   | false =>
    rw[hq]at h;simp only at h;cases hv:V5 env orc fr H o with
    | none=>rw[hv]at h;cases h
    | some u =>
     cases u with
     | val u H2=>rw[hv]at h;simp only[Option.some.injEq,Prod.mk.injEq]at h;obtain⟨rfl,rfl⟩:=h;exact c4t hp hv
     | pan u H2=>rw[hv]at h;cases h
theorem b3N:∀{l:List Oper} {fr fr':Fr} {H:Hp} {f1:Fr} {H1:Hp},a9e fr fr'->J5 env orc ops l fr H=some (.normal,f1,H1) -> ∃f2,J5 env orc ops l fr' H=some (.normal,f2,H1)/\a9e f1 f2
 | [],fr,fr',H,f1,H1,e,h=>by simp only[J5,Option.some.injEq,Prod.mk.injEq,true_and]at h ⊢;obtain⟨rfl,rfl⟩:=h;exact⟨fr',⟨rfl,rfl⟩,e⟩
 | o::r,fr,fr',H,f1,H1,e,h=>by
  obtain⟨v,H',h1,h2⟩:=a0Q.1 h;rw[b5n (fr':=fr') fun t _=>e t]at h1;obtain⟨f2,h3,h4⟩:=b3N (fr':=V9 o.dst v fr') (fun t=>by rw[a3j,a3j,e t]) h2;exact⟨f2,a0Q.2 ⟨v,H',h1,h3⟩,h4⟩
def HFree (env:Env)(orc:Orc)(ops:Array Oper)(o:Oper)(fr:Fr):Prop:=∀(v:V) (H H':Hp),opV env orc ops o fr H=some (v,H')->H'=H /\ ∀H2,opV env orc ops o fr H2=some (v,H2)
theorem b9f (hl:a3S o=some t)(ha:a8M (look t fr)=true):HFree env orc ops o fr:=by
 have ho:∃ty,o.op=.load ty (.tmp t):=by
  unfold a3S at hl;split at hl
  ·rename_i ty t' he;cases hl;exact⟨ty,he⟩
  ·cases hl
 obtain⟨ty,ho⟩:=ho;obtain⟨cs,hcs⟩:∃cs,look t fr=.cptr cs:=by
  cases hv:look t fr<;>rw[hv]at ha<;>first|cases ha;done|exact⟨_,rfl⟩
 intro v H H' h;simp only[opV]at h ⊢;cases hw:E5 ops o fr with
 | none=>rw[hw]at h;cases h
 | some w =>
  rw[hw]at h;cases w with
  | false=>simp only[Option.some.injEq,Prod.mk.injEq]at h;obtain⟨rfl,rfl⟩:=h;exact⟨rfl,fun _=>rfl⟩
  | true =>
   have hp:O1 o.op=false:=by rw[ho];rfl
   have he:∀K,O0 env orc fr K o=match a4c env.T ty (.cptr cs) []with|some v=>some (.val v K)|none=>none:=by
    intro K;simp only[O0,hp];unfold V5;rw[ho];simp only[ev,hcs];have hK:a4c env.T ty (.cptr cs) K=a4c env.T ty (.cptr cs) []:=by unfold a4c;cases K9 ty env.T<;>rfl
    rw[hK];cases a4c env.T ty (.cptr cs) []<;>rfl
   simp only[he]at h ⊢;cases hq:a4c env.T ty (.cptr cs) []with
   | none=>rw[hq]at h;cases h
   | some u=>rw[hq]at h;simp only[Option.some.injEq,Prod.mk.injEq]at h;obtain⟨rfl,rfl⟩:=h;exact⟨rfl,fun _=>rfl⟩
theorem nbeq {a c:Nat}(h:a≠c):Nat.beq a c=false:=by
 cases hb:Nat.beq a c with
 | false=>rfl
 | true=>exact absurd (Nat.eq_of_beq_eq_true hb) h
theorem a98 {j k:Nat}{o p:Obj}(h:j≠k):∀H:Hp,hset j o (hset k p H)=hset k p (hset j o H)
 | []=>by
  have h1:Nat.beq j k=false:=nbeq h;have h2:Nat.beq k j=false:=nbeq (Ne.symm h);simp only[hset,h1,h2];rcases Nat.lt_or_ge j k with h3|h3
  ·rw[Nat.ble_eq_true_of_le (by omega:j<=k),show Nat.ble k j=false by rw[<-Bool.not_eq_true,Nat.ble_eq];omega]
  ·rw[Nat.ble_eq_true_of_le (by omega:k<=j),show Nat.ble j k=false by rw[<-Bool.not_eq_true,Nat.ble_eq];omega]
 |(s,x)::r=>by
  have ih:=a98 (o:=o) (p:=p) h r;have b1:∀{a c:Nat},a≠c->Nat.beq a c=false:=fun h=>nbeq h;have b2:∀{a c:Nat},¬a<=c->Nat.ble a c=false:=fun h=>by rw[<-Bool.not_eq_true,Nat.ble_eq];exact h
  by_cases hj:s=j
  ·subst hj;by_cases hk:Nat.ble k s=true
   ·simp[hset,b1 h,b1 (Ne.symm h),hk,b2 (show ¬s<=k by have:=Nat.le_of_ble_eq_true hk;omega)]
   ·simp only[Bool.not_eq_true]at hk;simp[hset,b1 h,hk]
  ·by_cases hk:s=k
   ·subst hk;by_cases hj2:Nat.ble j s=true
    ·simp[hset,b1 h,b1 (Ne.symm h),b1 hj,hj2,b2 (show ¬s<=j by have:=Nat.le_of_ble_eq_true hj2;omega)]
    ·simp only[Bool.not_eq_true]at hj2;simp[hset,b1 hj,hj2]
   ·by_cases h1:Nat.ble j s=true
    ·by_cases h2:Nat.ble k s=true
     ·rcases Nat.lt_or_ge j k with h3|h3
      ·simp[hset,b1 hj,b1 hk,h1,h2,b1 h,b1 (Ne.symm h),b2 (show ¬k<=j by omega),Nat.ble_eq_true_of_le (show j<=k by omega)]
      ·simp[hset,b1 hj,b1 hk,h1,h2,b1 h,b1 (Ne.symm h),b2 (show ¬j<=k by omega),Nat.ble_eq_true_of_le (show k<=j by omega)]
     ·simp only[Bool.not_eq_true]at h2;have h3:¬k<=j:=by
       intro h4;have h5:=Nat.le_of_ble_eq_true h1;rw[Nat.ble_eq_true_of_le (by omega)]at h2;cases h2
      simp[hset,b1 hj,b1 hk,h1,h2,b1 h,b2 h3]
    ·simp only[Bool.not_eq_true]at h1;by_cases h2:Nat.ble k s=true
     ·have h3:¬j<=k:=by
       intro h4;have h5:=Nat.le_of_ble_eq_true h2;rw[Nat.ble_eq_true_of_le (by omega)]at h1;cases h1
      simp[hset,b1 hj,b1 hk,h1,h2,b1 (Ne.symm h),b2 h3]
     ·simp only[Bool.not_eq_true]at h2;simp[hset,b1 hj,b1 hk,h1,h2,ih]
theorem b5m (ho:o.op=.alloc t)(h:opV env orc ops o fr H=some (v,H')) :
  (H'=H /\ ∀K,opV env orc ops o fr K=some (v,K)) ∨ ∃x,hget (newName o) H=none/\H'=hset (newName o) x H /\ ∀K,hget (newName o) K=none->opV env orc ops o fr K=some (v,hset (newName o) x K):=by
 have hp:O1 o.op=false:=by rw[ho];rfl
 simp only[opV,O0,hp]at h ⊢;cases hw:E5 ops o fr with
 | none=>rw[hw]at h;cases h
 | some w =>
  rw[hw]at h;cases w with
  | false=>simp only[Option.some.injEq,Prod.mk.injEq]at h;obtain⟨rfl,rfl⟩:=h;exact .inl ⟨rfl,fun _=>rfl⟩
  | true =>
   have he:∀K,V5 env orc fr K o=match K9 t env.T,hget (newName o) K with|some y,none=>some (.val (.ptr (newName o) 0) (hset (newName o) (.row y.zero) K))|_,_=>none:=by
    intro K;unfold V5;rw[ho];simp only[];cases K9 t env.T<;>cases hget (newName o) K<;>rfl
   simp only[he]at h ⊢;cases ht:K9 t env.T with
   | none=>rw[ht]at h;cases h
   | some y =>
    rw[ht]at h;cases hg:hget (newName o) H with
    | some z=>rw[hg]at h;cases h
    | none =>
     rw[hg]at h;simp only[Option.some.injEq,Prod.mk.injEq]at h;obtain⟨rfl,rfl⟩:=h;refine .inr ⟨_,rfl,rfl,fun K hK=>?_⟩;rw[hK]
theorem b3I (h:a3z o=true):∃t,o.op=.alloc t:=by
 unfold a3z at h;split at h
 ·rename_i t he;exact⟨t,he⟩
 ·cases h
theorem swap_ok {b:Bool}{x y:Oper}(hc:b8W env ops b x y=true)(hx:b=true->isLd x=true->HFree env orc ops x fr)(hy:b=true->isLd y=true->HFree env orc ops y fr)
  (h:J5 env orc ops (x::y::l) fr H=some (.normal,f1,H1)) :
  ∃f2,J5 env orc ops (y::x::l) fr H=some (.normal,f2,H1)/\a9e f1 f2:=by
 simp only[b8W,Bool.and_eq_true]at hc;obtain⟨ha,hc⟩:=hc;obtain⟨a1,a2,a3⟩:=Oper.apart_spec ha;obtain⟨vx,Hx,h1,h2⟩:=a0Q.1 h;obtain⟨vy,Hy,h3,h4⟩:=a0Q.1 h2;have e1:opV env orc ops y (V9 x.dst vx fr) Hx=opV env orc ops y fr Hx:=b5n fun t ht=>by
  rw[a3j,if_neg];exact fun hd=>a1 t hd ht
 have e2:∀K,opV env orc ops x (V9 y.dst vy fr) K=opV env orc ops x fr K:=fun K=>b5n fun t ht=>by
  rw[a3j,if_neg];exact fun hd=>a3 t hd ht
 rw[e1]at h3;have e3:a9e (V9 y.dst vy (V9 x.dst vx fr)) (V9 x.dst vx (V9 y.dst vy fr)):=fun t=>by
  simp only[a3j];by_cases hx:x.dst=some t
  ·rw[if_pos hx,if_neg (a2 t hx),if_pos hx]
  ·rw[if_neg hx];by_cases hy:y.dst=some t
   ·rw[if_pos hy,if_neg hx]
   ·rw[if_neg hy,if_neg hx]
 have fin:∀K,opV env orc ops y fr H=some (vy,K)->opV env orc ops x fr K=some (vx,Hy) -> ∃f2,J5 env orc ops (y::x::l) fr H=some (.normal,f2,H1)/\a9e f1 f2:=by
  intro K k1 k2;obtain⟨f2,g1,g2⟩:=b3N e3 h4;exact⟨f2,a0Q.2 ⟨vy,K,k1,a0Q.2 ⟨vx,Hy,(e2 K).trans k2,g1⟩⟩,g2⟩
 simp only[Bool.or_eq_true,Bool.and_eq_true]at hc;rcases hc with((hc|hc) |⟨hc,hc'⟩) |⟨hb,(hc|hc) |⟨hc,hc'⟩⟩
 ·obtain⟨rfl,g⟩:=b7B hc h1;exact fin Hy h3 (g Hy)
 ·obtain⟨rfl,g⟩:=b7B hc h3;exact fin H (g H) h1
 ·have:=b7A hc h1;subst this;have:=b7A hc' h3;subst this;exact fin _ h3 h1
 ·obtain⟨rfl,g⟩:=hx hb hc _ _ _ h1;exact fin Hy h3 (g Hy)
 ·obtain⟨rfl,g⟩:=hy hb hc _ _ _ h3;exact fin H (g H) h1
 ·obtain⟨t1,ho1⟩:=b3I hc;obtain⟨t2,ho2⟩:=b3I hc';rcases b5m ho1 h1 with⟨rfl,g1⟩ |⟨o1,g1,rfl,g2⟩
  ·exact fin Hy h3 (g1 Hy)
  ·rcases b5m ho2 h3 with⟨rfl,g3⟩ |⟨o2,g3,rfl,g4⟩
   ·exact fin H (g3 H) h1
   ·rw[D6]at g3;split at g3
    ·cases g3
    ·rename_i hne;refine fin _ (g4 H g3) ?_;rw[a98 hne];exact g2 _ (by rw[D6,if_neg (Ne.symm hne)];exact g1)
def a4B (f1:Fr):List Oper->Prop
 | []=>True
 | o::r=>(∀t,a3S o=some t->a8M (look t f1)=true /\ ∀z∈o::r,z.dst≠some t)/\a4B f1 r
theorem a4B.sub {l':List Oper}(h:List.Sublist l' l):a4B f1 l->a4B f1 l':=by
  induction h with
  | slnil=>exact fun h=>h
  | cons a _ ih=>exact fun h=>ih h.2
  | cons_cons a hs ih=>exact fun h=>⟨fun t ht=>⟨(h.1 t ht).1,fun z hz=>(h.1 t ht).2 z (by
      rcases List.mem_cons.1 hz with rfl|hz
      · exact List.mem_cons_self ..
      · exact List.mem_cons_of_mem _ (hs.subset hz))⟩,ih h.2⟩
theorem a4B.congr {f1 f2:Fr}(e:a9e f1 f2):∀{l:List Oper},a4B f1 l->a4B f2 l
 | [],_=>trivial
 | _::_,h=>⟨fun t ht=>⟨by rw[<-e t];exact(h.1 t ht).1,(h.1 t ht).2⟩,a4B.congr e h.2⟩
theorem a4B.mem {f1:Fr}{y:Oper}{B:List Oper}:∀{A:List Oper},a4B f1 (A++y::B)->a4B f1 (y::B)
 | [],h=>h
 | _::_,h=>a4B.mem h.2
theorem b0L:∀{l:List Oper} {fr f1:Fr} {H H1:Hp} {t:Nat},J5 env orc ops l fr H=some (.normal,f1,H1) ->(∀z∈l,z.dst≠some t)->look t f1=look t fr
 | [],fr,f1,H,H1,t,h,_=>by simp only[J5,Option.some.injEq,Prod.mk.injEq,true_and]at h;rw[h.1]
 | o::l,fr,f1,H,H1,t,h,hz=>by
  obtain⟨v,H',h1,h2⟩:=a0Q.1 h;rw[b0L h2 (fun z hm=>hz z (List.mem_cons_of_mem _ hm)),a3j,if_neg (hz o (List.mem_cons_self ..))]
theorem c2l (h:a3S o=some t):t∈o.looksAt ops:=by
 unfold a3S at h;split at h
 ·rename_i ty t' he;cases h;refine List.mem_append_left _ (List.mem_filterMap.2 ⟨.tmp t,?_,rfl⟩);rw[he];simp[Op.operands]
 ·cases h
theorem b5j (h:isLd o=true):∃t,a3S o=some t:=by
 unfold isLd at h;split at h
 ·rename_i t he;exact⟨t,he⟩
 ·cases h
theorem b8Q {b:Bool}{y:Oper}:∀{A B:List Oper} {fr f1:Fr} {H H1:Hp},(∀x∈A,b8W env ops b x y=true) ->(b=true->a4B f1 (A++y::B))->J5 env orc ops (A++y::B) fr H=some (.normal,f1,H1) ->
  ∃f2,J5 env orc ops (y ::(A++B)) fr H=some (.normal,f2,H1)/\a9e f1 f2
 | [],B,fr,f1,H,H1,_,_,h=>⟨f1,h,.refl _⟩
 | x::A,B,fr,f1,H,H1,hc,hS,h=>by
  obtain⟨v,H',h1,h2⟩:=a0Q.1 h;obtain⟨f2,h3,h4⟩:=b8Q (fun z hz=>hc z (List.mem_cons_of_mem _ hz)) (fun hb=>(hS hb).2) h2;have hev:J5 env orc ops (x::y ::(A++B)) fr H=some (.normal,f2,H1):=a0Q.2 ⟨v,H',h1,h3⟩;have hmem:∀z∈x::y ::(A++B),z∈x ::(A++y::B):=by
   intro z hz;simp only[List.mem_cons,List.mem_append]at hz ⊢;rcases hz with rfl|rfl|hz|hz
   ·exact .inl rfl
   ·exact .inr (.inr (.inl rfl))
   ·exact .inr (.inl hz)
   ·exact .inr (.inr (.inr hz))
  obtain⟨f3,h5,h6⟩:=swap_ok (hc x (List.mem_cons_self ..)) (fun hb hl=>by
   obtain⟨t,ht⟩:=b5j hl;obtain⟨k1,k2⟩:=(hS hb).1 t ht;refine b9f ht ?_;rw[<-b0L hev (fun z hz=>k2 z (hmem z hz)),<-h4 t];exact k1) (fun hb hl=>by
   obtain⟨t,ht⟩:=b5j hl;have hy:a4B f1 (y::B):=a4B.mem (A:=x::A) (hS hb);obtain⟨k1,k2⟩:=hy.1 t ht;refine b9f ht ?_;rw[<-b0L hev (fun z hz=>?_),<-h4 t]
   ·exact k1
   ·have hno:∀u∈x::A,u.dst≠some t:=by
     intro u hu hd;have:=hc u hu;simp only[b8W,Bool.and_eq_true]at this;exact(Oper.apart_spec this.1).1 t hd (c2l ht)
    simp only[List.mem_cons,List.mem_append]at hz;rcases hz with rfl|rfl|hz|hz
    ·exact hno _ (List.mem_cons_self ..)
    ·exact k2 _ (List.mem_cons_self ..)
    ·exact hno z (List.mem_cons_of_mem _ hz)
    ·exact k2 z (List.mem_cons_of_mem _ hz)) hev
  exact⟨f3,h5,h4.trans h6⟩
theorem c6r {f1:Fr}:∀{l:List Oper},safeB l=true ->((a3e l).all fun t=>a8M (look t f1))=true->a4B f1 l
 | [],_,_=>trivial
 | o::r,h1,h2=>by
  simp only[safeB,Bool.and_eq_true]at h1;refine⟨fun t ht=>?_,c6r h1.2 ?_⟩
  ·rw[ht]at h1;simp only[a3e,ht,List.all_cons,Bool.and_eq_true]at h2;refine⟨h2.1,fun z hz hd=>?_⟩;have:=List.all_eq_true.1 h1.1 z hz;rw[hd]at this;simp at this
  ·simp only[a3e]at h2;split at h2
   ·simp only[List.all_cons,Bool.and_eq_true]at h2;exact h2.2
   ·exact h2
end
variable {args:List V} {g j k k':Nat} {o:Obj} {r:OpR}
section
variable {env:Env} {orc:Orc} {ops:Array Oper} {L sl:List Nat} {fr fr':Fr} {H H':Hp}
def Sub (H H':Hp):Prop:=∀k o,hget k H=some o->hget k H'=some o
theorem Sub.refl (H:Hp):Sub H H:=fun _ _ h=>h
theorem Sub.trans {A B C:Hp}(h:Sub A B)(g:Sub B C):Sub A C:=fun k o e=>g k o (h k o e)
theorem b4Z (h:hget k H=none):Sub H (hset k o H):=fun j x e=>by
 rw[D6,if_neg];· exact e
 ·rintro rfl;rw[h]at e;cases e
theorem b5r:∀(n:Nat) (todo acc:List Nat) (k:Nat),k∈acc->k∈reach H n todo acc
 | 0,_,_,_,h=>by simpa [reach]using h
 | n+1,[],_,_,h=>by simpa [reach]using h
 | n+1,a::todo,acc,k,h=>by
  simp only[reach];cases has a acc with
  | true=>exact b5r n todo acc k h
  | false=>exact b5r n _ _ k (List.mem_append_left _ h)
theorem b0z (hs:Sub H H'):∀(n:Nat) (todo acc:List Nat),(∀k∈reach H n todo acc,hget k H≠none)->reach H' n todo acc=reach H n todo acc
 | 0,_,_,_=>by simp[reach]
 | n+1,[],_,_=>by simp[reach]
 | n+1,a::todo,acc,h=>by
  simp only[reach]at h ⊢;cases hb:has a acc with
  | true=>rw[hb]at h;exact b0z hs n todo acc h
  | false =>
   rw[hb]at h;simp only at h ⊢;have ha:=h a (b5r n _ _ a (List.mem_append_right _ (List.mem_singleton.2 rfl)));cases hg:hget a H with
   | none=>exact absurd hg ha
   | some o =>
    rw[hg]at h;rw[hs a o hg];exact b0z hs n _ _ h
theorem b3n (hs:Sub H H'){m:Nat->Option Nat}:∀{ns:List Nat} {i:Nat} {r:Hp},a6k H m ns i=some r->a6k H' m ns i=some r /\ ∀k∈ns,hget k H≠none
 | [],i,r,h=>⟨h,fun k hk=>by cases hk⟩
 | a::ns,i,r,h=>by
  simp only[a6k]at h ⊢;cases hg:hget a H with
  | none=>rw[hg]at h;cases h
  | some o =>
   rw[hg]at h;rw[hs a o hg];simp only at h ⊢;cases ho:b3D m o with
   | none=>rw[ho]at h;cases h
   | some o' =>
    rw[ho]at h;cases hp:a6k H m ns (i+1)with
    | none=>rw[hp]at h;cases h
    | some l =>
     rw[hp]at h;obtain⟨h1,h2⟩:=b3n hs hp;rw[h1];refine⟨h,fun k hk=>?_⟩;rcases List.mem_cons.1 hk with rfl|hk
     ·rw[hg];simp
     ·exact h2 k hk
theorem c35 (hs:Sub H H'){nr:Nat}{v:V}{r:V×Hp}(h:finish nr v H=some r):finish nr v H'=some r:=by
 unfold finish at h ⊢;simp only[b81,b66,b1q]at h ⊢;cases hp:a6k H (idx · (reach H 99 (List.range nr++a1i dep v) [])) (reach H 99 (List.range nr++a1i dep v) []) 0 with
 | none=>rw[hp]at h;revert h;cases a1D (idx · (reach H 99 (List.range nr++a1i dep v) [])) dep v<;>(intro h;cases h)
 | some H2 =>
  obtain⟨h1,h2⟩:=b3n hs hp;rw[b0z hs _ _ _ h2,h1,<-hp];exact h
theorem b4a {m:Nat->Option Nat}{k:Nat}:∀{M H H4:Hp},a1H m M H=some H4->hget k H4=none->hget k H=none
 | [],H,H4,h,hk=>by simp only[a1H,Option.some.injEq]at h;rw[h];exact hk
 |(i,x)::r,H,H4,h,hk=>by
  simp only[a1H]at h;split at h
  ·rename_i j x' _ _;have:=b4a h hk;rw[D6]at this;split at this
   ·cases this
   ·exact this
  ·cases h
theorem b7q {m:Nat->Option Nat}{k:Nat}{o:Obj}:∀{M H H4:Hp},a1H m M H=some H4->hget k H4=none->a1H m M (hset k o H)=some (hset k o H4)
 | [],H,H4,h,hk=>by simp only[a1H,Option.some.injEq]at h ⊢;rw[h]
 |(i,x)::r,H,H4,h,hk=>by
  simp only[a1H]at h ⊢;split at h
  ·rename_i j x' _ _;have:=b4a h hk;have hne:j≠k:=by
    rintro rfl;rw[D6,if_pos rfl]at this;cases this
   rw[a98 hne];exact b7q h hk
  ·cases h
theorem b7r {m:Nat->Option Nat}{k:Nat}:∀{M H H4:Hp},a1H m M H=some H4 ->(∀i o,(i,o)∈M->m i≠some k)->hget k H4=hget k H
 | [],H,H4,h,_=>by simp only[a1H,Option.some.injEq]at h;rw[h]
 |(i,x)::r,H,H4,h,hk=>by
  simp only[a1H]at h;split at h
  ·rename_i j x' hj _;rw[b7r h (fun i' o' hm=>hk i' o' (List.mem_cons_of_mem _ hm)),D6,if_neg];rintro rfl;exact hk i x (List.mem_cons_self ..) hj
  ·cases h
theorem c2h:∀{M:Hp} {i:Nat},keysB i M=true -> ∀j o,(j,o)∈M->i<=j/\j<i+M.length
 | [],_,_,_,_,hm=>by cases hm
 |(a,x)::r,i,h,j,o,hm=>by
  simp only[keysB,Bool.and_eq_true]at h;have ha:=Nat.eq_of_beq_eq_true h.1;rcases List.mem_cons.1 hm with he|hm
  ·cases he;simp only[List.length_cons];omega
  ·have:=c2h h.2 j o hm;simp only[List.length_cons];omega
theorem b7b {k':Nat}{o:Obj}:∀{n k:Nat},b0M H k n=true ->(∀i,i<n->k+i≠k')->b0M (hset k' o H) k n=true
 | 0,_,_,_=>rfl
 | n+1,k,h,hn=>by
  simp only[b0M,Bool.and_eq_true]at h ⊢;refine⟨?_,b7b h.2 (fun i hi=>hn i (by omega))⟩;rw[D6,if_neg (hn n (Nat.lt_succ_self n))];exact h.1
def OpR.heap:OpR->Hp | .val _ H=>H | .pan _ H=>H
def OpR.add (k:Nat)(o:Obj):OpR->OpR | .val v H=>.val v (hset k o H) | .pan v H=>.pan v (hset k o H)
theorem a9V (h:a15 orc g args H=some r):r.heap=H /\ ∀K,∃v,r=.val v H/\a15 orc g args K=some (.val v K):=by
 unfold a15 at h ⊢;split at h
 ·cases h
 ·split at h
  ·rename_i ho;split at h
   ·rename_i hv;cases h;exact⟨rfl,fun K=>⟨_,rfl,rfl⟩⟩
   ·cases h
  ·cases h
def b8S (env:Env)(g:Nat)(Y3:List V)(n:Nat)(H2:Hp):List V×Hp:=b2p env.full (a3M (env.argTags g) Y3 n).1 ((U4 H2 (a3M (env.argTags g) Y3 n).2).1++b3F n ((U4 H2 (a3M (env.argTags g) Y3 n).2).2-n))
theorem a8f (hq:env.quiet g = false) (h:Y4 env orc k g args H = some r) :
    ∃ns Y3 H2 H3 v v4,reach H 99 ((a2v (env.argTags g) (env.a7K g) args).flatMap (a1i dep)) []=ns/\a1m (a1D (idx · ns) dep) (a2v (env.argTags g) (env.a7K g) args)=some Y3/\a6k H (idx · ns) ns 0=some H2 /\
      a1D (J3 ns k) dep v=some v4/\a1H (J3 ns k) H3 H=some r.heap/\a4e H H3 k ns.length=true /\
      ((orc (.call g (b8S env g Y3 ns.length H2).1) (b8S env g Y3 ns.length H2).2=some (.ret v H3)/\r=.val v4 r.heap) ∨
       (orc (.call g (b8S env g Y3 ns.length H2).1) (b8S env g Y3 ns.length H2).2=some (.pan v H3)/\r=.pan v4 r.heap)):=by
  unfold Y4 at h;rw[hq]at h;simp only at h;generalize hns:reach H 99 ((a2v (env.argTags g) (env.a7K g) args).flatMap (a1i dep)) []=ns at h;split at h
  · rename_i Y3 H2 h1 h2
    split at h
    · rename_i v H3 ho
      split at h
      · rename_i v4 H4 hv hm
        split at h
        · rename_i hf
          cases h;exact⟨ns,Y3,H2,H3,v,v4,rfl,h1,h2,hv,hm,hf,.inl ⟨ho,rfl⟩⟩
        · cases h
      · cases h
    · rename_i v H3 ho
      split at h
      · rename_i v4 H4 hv hm
        split at h
        · rename_i hf
          cases h;exact⟨ns,Y3,H2,H3,v,v4,rfl,h1,h2,hv,hm,hf,.inr ⟨ho,rfl⟩⟩
        · cases h
      · cases h
    · cases h
  · cases h
theorem b5G (h:Y4 env orc k g args H=some r)(hk:hget k' r.heap=none):hget k' H=none:=by
 cases hq:env.quiet g with
 | true =>
  unfold Y4 at h;rw[hq]at h;rw[(a9V h).1]at hk;exact hk
 | false =>
  obtain⟨ns,a2,H2,H3,v,v4,_,_,_,_,hm,_⟩:=a8f hq h;exact b4a hm hk
theorem b5F (h:Y4 env orc k g args H=some r)(hk:hget k' r.heap=none)(hne:∀i,i<64->k+i≠k') :
  Y4 env orc k g args (hset k' o H)=some (r.add k' o):=by
 cases hq:env.quiet g with
 | true =>
  unfold Y4 at h ⊢;rw[hq]at h ⊢;obtain⟨v,rfl,h2⟩:=(a9V h).2 (hset k' o H);exact h2
 | false =>
  have hk0:=b5G h hk;obtain⟨ns,a2,H2,H3,v,v4,h1,h2,h3,h4,hm,hf,ho⟩:=a8f hq h;have hs:Sub H (hset k' o H):=b4Z hk0;obtain⟨p1,p2⟩:=b3n hs h3;have hr:=b0z hs 99 ((a2v (env.argTags g) (env.a7K g) args).flatMap (a1i dep)) [] (by rw[h1];exact p2);have hf2:a4e (hset k' o H) H3 k ns.length=true:=by
   simp only[a4e,Bool.and_eq_true]at hf ⊢;refine⟨hf.1,b7b hf.2 fun i hi=>hne i ?_⟩;have:=Nat.le_of_ble_eq_true hf.1.1;omega
  have hm2:=b7q (o:=o) hm hk;unfold Y4;rw[hq];simp only[hr,h1,h2,p1];rcases ho with⟨ho,hre⟩ |⟨ho,hre⟩
  ·simp only[b8S]at ho;simp only[ho,h4,hm2,hf2];rw[hre];rfl
  ·simp only[b8S]at ho;simp only[ho,h4,hm2,hf2];rw[hre];rfl
theorem c6P (h:a2r env orc k g args H=some r)(hk:hget k' r.heap=none):hget k' H=none:=by
 rcases a7b h with⟨h1,_⟩ |⟨_,_,v,H4,h1,rfl,h3⟩
 ·exact b5G h1 hk
 ·exact hk
theorem c6O (h:a2r env orc k g args H=some r)(hk:hget k' r.heap=none)(hne:∀i,i<64->k+i≠k') :
  a2r env orc k g args (hset k' o H)=some (r.add k' o):=by
 rcases a7b h with⟨h1,h2⟩ |⟨hq,hl,v,H4,h1,rfl,h3⟩
 ·have h4:=b5F (o:=o) h1 hk hne;unfold a2r;rcases h2 with h2|h2
  ·rw[h2];simp only;unfold Y4 at h4;rw[h2]at h4;exact h4
  ·cases hq:env.quiet g with
   | true =>
    simp only;unfold Y4 at h4;rw[hq]at h4;exact h4
   | false=>simp only[h2];exact h4
 ·have h4:=b5F (o:=o) h1 (k':=k') (by show hget k' H4=none;rw[h3];exact hk) hne;unfold a2r;simp only[hq,hl,h4];have h5:b72 (hset k' o H4) (hset k' o H)=true:=c22 fun j=>by rw[D6,D6,h3]
  simp only[OpR.add,c2s,h5]
theorem a9p {k:Nat}:∀{l:List Nat},has k l=true↔k∈l
 | []=>by simp[has]
 | a::r=>by
  simp only[has,List.mem_cons];cases hb:Nat.beq a k with
  | true=>have:=Nat.eq_of_beq_eq_true hb;simp[this]
  | false =>
   have hne:k≠a:=by rintro rfl;simp at hb
   simp only[a9p (l:=r)];exact⟨.inr,fun h=>h.resolve_left hne⟩
theorem b90 (h:Y4 env orc k g args H=some r)(hj:hget j H≠none)
  (hn:env.quiet g=false->has j (reach H 99 ((a2v (env.argTags g) (env.a7K g) args).flatMap (a1i dep)) [])=false):hget j r.heap=hget j H:=by
 cases hq:env.quiet g with
 | true =>
  unfold Y4 at h;rw[hq]at h;rw[(a9V h).1]
 | false =>
  obtain⟨ns,a2,H2,H3,v,v4,h1,h2,h3,h4,hm,hf,_⟩:=a8f hq h;have hn:=hn hq;rw[h1]at hn;simp only[a4e,Bool.and_eq_true]at hf;refine b7r hm fun i o hio hb=>?_;have hlt:=c2h hf.1.2 i o hio;unfold J3 at hb;split at hb
  ·rename_i j' hj';cases hb;have:j∈ns:=List.mem_of_getElem? hj';rw[<-a9p,hn]at this;cases this
  ·rename_i hno;cases hb;have hge:ns.length<=i:=by
    rcases Nat.lt_or_ge i ns.length with h5|h5
    ·rw[List.getElem?_eq_getElem h5]at hno;cases hno
    ·exact h5
   exact hj (b5e hf.2 (i-ns.length) (by omega))
theorem c3I (h:a2r env orc k g args H=some r)(hj:hget j H≠none)
  (hn:env.quiet g=false->has j (reach H 99 ((a2v (env.argTags g) (env.a7K g) args).flatMap (a1i dep)) [])=false):hget j r.heap=hget j H:=by
 rcases a7b h with⟨h1,_⟩ |⟨_,_,v,H4,h1,rfl,h3⟩
 ·exact b90 h1 hj hn
 ·rfl
theorem c6Q (h:a2r env orc k g args H=some r):∃r0,Y4 env orc k g args H=some r0:=by
 rcases a7b h with⟨h1,_⟩ |⟨_,_,v,H4,h1,rfl,h3⟩
 ·exact⟨_,h1⟩
 ·exact⟨_,h1⟩
end
variable {K:Hp} {j k t xt:Nat} {r:OpR} {o x y:Oper} {s v:V}
section
variable {env:Env} {orc:Orc} {ops:Array Oper} {L sl:List Nat} {fr fr':Fr} {H H':Hp}
def a1X (env:Env)(orc:Orc)(L sl:List Nat)(ops:Array Oper)(o:Oper)(fr:Fr)(H:Hp):Option (V×Hp) :=
 match E5 ops o fr with
 | none=>none
 | some false=>some (.tuple [],H)
 | some true=>match a3u env L sl fr H o with
  | false=>none
  | true=>match O0 env orc fr H o with
   | some (.val v H)=>some (v,H)
   | _=>none
def b3H (env:Env)(orc:Orc)(L sl:List Nat)(ops:Array Oper)(o:Oper)(fr:Fr)(H:Hp)(v:V)(H':Hp):Prop :=E5 ops o fr=some true/\a3u env L sl fr H o=true/\O0 env orc fr H o=some (.pan v H')
theorem a0e {l:List Oper}{r:Res}:J7 env orc L sl ops (o::l) fr H=some r ↔
  (∃v H',a1X env orc L sl ops o fr H=some (v,H')/\J7 env orc L sl ops l (V9 o.dst v fr) H'=some r) ∨ ∃v H',b3H env orc L sl ops o fr H v H'/\r =(.panic v,fr,H'):=by
 simp only[J7,a1X,b3H];cases E5 ops o fr with
 | none=>simp
 | some b =>
  cases b with
  | false=>simp;exact⟨fun h=>⟨_,_,⟨rfl,rfl⟩,h⟩,fun⟨_,_,⟨h1,h2⟩,h⟩=>by subst h1 h2;exact h⟩
  | true =>
   cases a3u env L sl fr H o with
   | false=>simp
   | true =>
    simp only[true_and];cases O0 env orc fr H o with
    | none=>simp
    | some x =>
     cases x with
     | val v H1=>simp;exact⟨fun h=>⟨_,_,⟨rfl,rfl⟩,h⟩,fun⟨_,_,⟨h1,h2⟩,h⟩=>by subst h1 h2;exact h⟩
     | pan v H1=>simp;exact⟨fun h=>⟨_,_,⟨rfl,rfl⟩,h.symm⟩,fun⟨_,_,⟨h1,h2⟩,h3⟩=>by rw[h1,h2,h3]⟩
theorem a7t:∀{l:List Oper} {fr:Fr} {H:Hp} {r:Res},J7 env orc L sl ops l fr H=some r->J5 env orc ops l fr H=some r
 | [],fr,H,r,h=>h
 | o::l,fr,H,r,h=>by
  simp only[J7,J5]at h ⊢;cases hw:E5 ops o fr with
  | none=>rw[hw]at h;cases h
  | some b =>
   rw[hw]at h;cases b with
   | false=>exact a7t h
   | true =>
    simp only at h ⊢;cases hp:a3u env L sl fr H o with
    | false=>rw[hp]at h;cases h
    | true =>
     rw[hp]at h;simp only at h;cases ho:O0 env orc fr H o with
     | none=>rw[ho]at h;cases h
     | some x =>
      rw[ho]at h;cases x with
      | val v H1=>exact a7t h
      | pan v H1=>exact h
theorem a4K {H':Hp}:a1X env orc L sl ops o fr H=some (v,H')↔opV env orc ops o fr H=some (v,H')/\(E5 ops o fr=some true->a3u env L sl fr H o=true):=by
 simp only[a1X,opV];cases E5 ops o fr with
 | none=>simp
 | some b =>
  cases b with
  | false=>simp
  | true =>
   cases a3u env L sl fr H o with
   | false=>simp
   | true=>exact⟨fun h=>⟨h,fun _=>rfl⟩,fun h=>h.1⟩
theorem c50 {x:Operand}(h:∀t∈o.looksAt ops,look t fr=look t fr')(hx:x∈o.op.operands.toList):ev fr x=ev fr' x:=by
 cases x with
 | tmp t=>simp only[ev];rw[h t (List.mem_append_left _ (List.mem_filterMap.2 ⟨.tmp t,hx,rfl⟩))]
 | _=>rfl
theorem b45 (h:∀t∈o.looksAt ops,look t fr=look t fr'):E5 ops o fr=E5 ops o fr':=by
 unfold E5;cases hg:o.guard with
 | none=>rfl
 | some p =>
  obtain⟨j,want⟩:=p;simp only[b25];cases hd:(ops[j]?).bind (·.dst)with
  | none=>rfl
  | some t=>simp only;rw[h t (by simp[Oper.looksAt,hg,hd])]
theorem b4K (h:∀t∈o.looksAt ops,look t fr=look t fr'):O0 env orc fr H o=O0 env orc fr' H o:=by
 have hop:∀x∈o.op.operands.toList,ev fr x=ev fr' x:=fun x hx=>c50 h hx;simp only[O0,b54 hop,b5W hop]
theorem c3f (h:∀t∈o.looksAt ops,look t fr=look t fr'):touch env fr H o=touch env fr' H o:=by
 have hop:∀x∈o.op.operands.toList,ev fr x=ev fr' x:=fun x hx=>c50 h hx;unfold touch;split
 ·rename_i args at_ heq;rw[heq]at hop;have h2:evL fr args.toList=evL fr' args.toList:=a4H fun x hx=>hop x (by simp only[Op.operands,Call.operands];simp only[Array.toList_append,List.mem_append];exact .inr hx);rw[h2]
 ·rename_i f args at_ heq;rw[heq]at hop;have h1:ev fr f=ev fr' f:=hop f (by simp[Op.operands,Call.operands]);have h2:evL fr args.toList=evL fr' args.toList:=a4H fun x hx=>hop x (by simp only[Op.operands,Call.operands];simp only[Array.toList_append,List.mem_append];exact .inr hx);rw[h1,h2]
 ·rfl
theorem b5Y (h:∀t∈o.looksAt ops,look t fr=look t fr'):a3u env L sl fr H o=a3u env L sl fr' H o:=by
 unfold a3u;rw[c3f h];cases hs:b0D o with
 | some t =>
  simp only;have:t∈o.looksAt ops:=by
   unfold b0D at hs;split at hs
   ·rename_i ty t' x he;cases hs;refine List.mem_append_left _ (List.mem_filterMap.2 ⟨.tmp t,?_,rfl⟩);rw[he];simp[Op.operands]
   ·cases hs
  rw[h t this]
 | none =>
  cases hl:a3S o with
  | none=>rfl
  | some t=>simp only;rw[h t (c2l hl)]
theorem b0T (h:∀t∈o.looksAt ops,look t fr=look t fr'):a1X env orc L sl ops o fr H=a1X env orc L sl ops o fr' H:=by
 simp only[a1X,b45 h,b5Y h,b4K h]
theorem b2c (h:∀t∈o.looksAt ops,look t fr=look t fr')(hp:b3H env orc L sl ops o fr H v H'):b3H env orc L sl ops o fr' H v H':=by
 unfold b3H at hp ⊢;rw[<-b45 h,<-b5Y h,<-b4K h];exact hp
theorem a9n:∀{l:List Oper} {fr fr':Fr} {H:Hp} {ex:Ex} {f1:Fr} {H1:Hp},a9e fr fr'->J7 env orc L sl ops l fr H=some (ex,f1,H1) -> ∃f2,J7 env orc L sl ops l fr' H=some (ex,f2,H1)/\a9e f1 f2
 | [],fr,fr',H,ex,f1,H1,e,h=>by
  simp only[J7,Option.some.injEq,Prod.mk.injEq]at h ⊢;obtain⟨rfl,rfl,rfl⟩:=h;exact⟨fr',⟨rfl,rfl,rfl⟩,e⟩
 | o::r,fr,fr',H,ex,f1,H1,e,h=>by
  rcases a0e.1 h with⟨v,H',h1,h2⟩ |⟨v,H',h1,h2⟩
  ·rw[b0T (fr':=fr') fun t _=>e t]at h1;obtain⟨f2,h3,h4⟩:=a9n (fr':=V9 o.dst v fr') (fun t=>by rw[a3j,a3j,e t]) h2;exact⟨f2,a0e.2 (.inl ⟨v,H',h1,h3⟩),h4⟩
  ·simp only[Prod.mk.injEq]at h2;obtain⟨rfl,rfl,rfl⟩:=h2;exact⟨fr',a0e.2 (.inr ⟨v,H1,b2c (fun t _=>e t) h1,rfl⟩),e⟩
def b9a (sl:List Nat)(o:Oper):Bool:=match a3S o with
 | some t=>has t sl
 | none=>false
def c2c (sl:List Nat)(o:Oper):Bool:=match b0D o with
 | some t=>has (t+1000000) sl
 | none=>false
def a6T (env:Env)(ops:Array Oper)(sl:List Nat)(x y:Oper):Bool:=x.apart ops y&&((O1 x.op||O1 y.op ||(a8L env x.op&&a8L env y.op)) ||((b9a sl x&&(a9H y||a3z y||b2t y||c2c sl y)) ||((a9H x&&a3z y||a3z x&&a3z y) && !Nat.beq (newName x) (newName y))))
theorem b5U (o:Oper):∃a,newName o=64*a:=by
 unfold newName;split
 ·exact⟨_,rfl⟩
 ·exact⟨1,rfl⟩
theorem b2x (h:Nat.beq (newName x) (newName y)=false):∀i,i<64->newName x+i≠newName y:=by
 intro i hi he;obtain⟨a,ha⟩:=b5U x;obtain⟨b,hb⟩:=b5U y;rw[ha,hb]at he;have:i=0:=by omega
 subst this;rw[ha,hb,show 64*a=64*b from by omega]at h;simp at h
theorem c4L (h:O1 o.op=true):a9H o=false/\a3z o=false/\a3S o=none/\b2t o=false/\b0D o=none:=by
 obtain⟨dst,op,type,pos,after,guard⟩:=o;refine⟨?_,?_,?_,?_,?_⟩
 ·unfold a9H;simp only at h ⊢;split
  ·cases h
  ·rfl
 ·unfold a3z;simp only at h ⊢;split
  ·cases h
  ·rfl
 ·unfold a3S;simp only at h ⊢;split
  ·cases h
  ·rfl
 ·unfold b2t;simp only at h ⊢;split
  ·cases h
  ·cases h
  ·rfl
 ·unfold b0D;simp only at h ⊢;split
  ·cases h
  ·rfl
theorem c4K (h:O1 o.op=true):a3u env L sl fr H o=true:=by
 obtain⟨h1,h2,h3,h4,h5⟩:=c4L h;simp[a3u,h1,h2,h3,h4,h5]
theorem b0f (hp:O1 o.op=true)(h:a1X env orc L sl ops o fr H=some (v,H')):H'=H /\ ∀K,a1X env orc L sl ops o fr K=some (v,K):=by
 obtain⟨h1,_⟩:=a4K.1 h;obtain⟨rfl,g⟩:=b7B hp h1;exact⟨rfl,fun K=>a4K.2 ⟨g K,fun _=>c4K hp⟩⟩
theorem b7i {α:Type}{x:Option α}:isSome x=true↔x≠none:=by cases x<;>simp[isSome]
theorem b2d (h:a3z o=true):a9H o=false/\a3S o=none/\O1 o.op=false:=by
 obtain⟨t,ho⟩:=b3I h;refine⟨?_,?_,?_⟩
 ·unfold a9H;rw[ho]
 ·unfold a3S;rw[ho]
 ·rw[ho];rfl
theorem touch_al (h:a3z o=true):touch env fr H o=[]:=by
 obtain⟨t,ho⟩:=b3I h;unfold touch;rw[ho]
theorem b7Q (h:a3z o=true):a3u env L sl fr H o=L.all fun r=>isSome (hget r H):=by
 unfold a3u;rw[h,Bool.or_true,Bool.true_or];simp only[touch_al h,has,Bool.not_false,Bool.true_and]
theorem a8P (ha:a3z o=true)(h:a1X env orc L sl ops o fr H=some (v,H')) :
  (E5 ops o fr=some false/\H'=H /\ ∀K,a1X env orc L sl ops o fr K=some (v,K)) ∨
  ∃x,(L.all fun r=>isSome (hget r H))=true/\hget (newName o) H=none/\H'=hset (newName o) x H /\ ∀K,hget (newName o) K=none ->(L.all fun r=>isSome (hget r K))=true->a1X env orc L sl ops o fr K=some (v,hset (newName o) x K):=by
 obtain⟨t,ho⟩:=b3I ha;obtain⟨h1,h2⟩:=a4K.1 h;cases hw:E5 ops o fr with
 | none=>simp only[a1X,hw]at h;cases h
 | some b =>
  cases b with
  | false =>
   refine .inl ⟨rfl,?_,fun K=>?_⟩
   ·simp only[a1X,hw,Option.some.injEq,Prod.mk.injEq]at h;exact h.2.symm
   ·simp only[a1X,hw,Option.some.injEq,Prod.mk.injEq]at h ⊢;exact⟨h.1,trivial⟩
  | true =>
   have h2:=h2 hw;rw[b7Q ha]at h2;rcases b5m ho h1 with⟨rfl,g⟩ |⟨x,g1,rfl,g2⟩
   ·
    exfalso;have hp:=(b2d ha).2.2;simp only[opV,hw,O0,hp]at h1;have he:V5 env orc fr H' o=match K9 t env.T,hget (newName o) H' with|some y,none=>some (.val (.ptr (newName o) 0) (hset (newName o) (.row y.zero) H'))|_,_=>none:=by
     unfold V5;rw[ho];simp only[];cases K9 t env.T<;>cases hget (newName o) H'<;>rfl
    rw[he]at h1;cases ht:K9 t env.T with
    | none=>rw[ht]at h1;cases h1
    | some y =>
     rw[ht]at h1;cases hg:hget (newName o) H' with
     | some z=>rw[hg]at h1;cases h1
     | none =>
      rw[hg]at h1;simp only[Option.some.injEq,Prod.mk.injEq]at h1;have:=congrArg (hget (newName o)) h1.2;rw[D6,if_pos rfl,hg]at this;cases this
   ·exact .inr ⟨x,h2,g1,rfl,fun K hK hL=>a4K.2 ⟨g2 K hK,fun _=>by rw[b7Q ha];exact hL⟩⟩
theorem cl_op (h:a9H o=true):∃f args at_,o.op=.call ⟨.value f,args,at_⟩:=by
 unfold a9H at h;split at h
 ·rename_i f args at_ he;exact⟨f,args,at_,he⟩
 ·cases h
theorem cl_kinds (h:a9H o=true):a3z o=false/\a3S o=none/\O1 o.op=false:=by
 obtain⟨f,args,at_,ho⟩:=cl_op h;refine⟨?_,?_,?_⟩
 ·unfold a3z;rw[ho]
 ·unfold a3S;rw[ho]
 ·rw[ho];rfl
theorem c5w (h:a9H o = true) (hs:O0 env orc fr H o = some r) :
    ∃g l,a2r env orc (newName o) g l H=some r/\(∀K,O0 env orc fr K o=a2r env orc (newName o) g l K) /\ ∀K,touch env fr K o=match env.quiet g with|true=>[]|false=>reach K 99 ((a2v (env.argTags g) (env.a7K g) l).flatMap (a1i dep)) []:=by
  obtain⟨f,args,at_,ho⟩:=cl_op h;have hp:=(cl_kinds h).2.2;have he:∀ K,O0 env orc fr K o = match ev fr f,evL fr args.toList with
      | some (.func (.func g) first captured),some l=>a2r env orc (newName o) g (first++l++captured) K
      | _,_=>none:=by
    intro K;simp only[O0,hp];unfold V5;rw[ho];rfl
  rw[he]at hs;split at hs
  · rename_i g first captured l h1 h2
    refine⟨g,first++l++captured,hs,fun K=>?_,fun K=>?_⟩
    · rw[he,h1,h2]
    · unfold touch;rw[ho];simp only[h1,h2];rfl
  · cases hs
theorem b2S (h:a9H o=true):a3u env L sl fr H o=L.all fun r=>!has r (touch env fr H o)&&isSome (hget r H):=by
 unfold a3u;rw[h,Bool.true_or,Bool.true_or]
theorem c5d {T:List (Nat×Ty)}{x:V}(h:a5g T t xt s x H k=some (.pan v K)):False:=by
 unfold a5g at h;repeat' (split at h)
 all_goals first
  |(cases h;done)
  |(obtain⟨_,h⟩:=K8 h;cases h;done)
theorem c5P {g:Nat}(h:has j [g]=false):j≠g:=by
 rintro rfl;simp[has]at h
theorem c7Y {T:List (Nat×Ty)}{x:V}(h:a5g T t xt s x H k=some (.val v K))(h1:has j (a1i dep s)=false)(h2:hget j H≠none):hget j K=hget j H:=by
 have hk:∀{o},hget k H=o->o=none->j≠k:=fun e e2 ej=>h2 (by rw[ej,e,e2]);unfold a5g at h;split at h
 ·cases h
 ·cases h
 split at h
 ·split at h
  ·split at h
   ·split at h
    ·split at h
     ·cases h
     ·rename_i he;obtain⟨_,h⟩:=K8 h;cases h;rw[D6,if_neg (hk he rfl)]
    ·split at h
     ·cases h
     ·rename_i he;obtain⟨_,h⟩:=K8 h;cases h;rw[D6,if_neg (hk he rfl)]
    ·cases h;rfl
    ·cases h;rfl
    ·cases h
   ·split at h
    ·split at h
     ·obtain⟨_,h⟩:=K8 h;cases h;rw[D6,if_neg (c5P h1)]
     ·cases h
    ·cases h
    ·split at h
     ·cases h
     ·rename_i he;obtain⟨_,h⟩:=K8 h;cases h;rw[D6,if_neg (hk he rfl)]
    ·split at h
     ·rename_i he;obtain⟨_,h⟩:=K8 h;cases h;rw[D6,if_neg (c5P h1),D6,if_neg (hk he rfl)]
     ·cases h
    ·cases h
  ·cases h
 ·cases h
theorem box_keep (ho:b2t o=true)(h:a1X env orc L sl ops o fr H=some (v,H'))(hj:has j L=true):hget j H'=hget j H:=by
 have hcase:(∃t x,o.op=.box t x) ∨ ∃args at_,o.op=.call ⟨.builtin .append,args,at_⟩:=by
  unfold b2t at ho;split at ho
  ·rename_i t x he;exact .inl ⟨t,x,he⟩
  ·rename_i args at_ he;exact .inr ⟨args,at_,he⟩
  ·cases ho
 obtain⟨h1,h2⟩:=a4K.1 h;cases hw:E5 ops o fr with
 | none=>simp only[a1X,hw]at h;cases h
 | some b =>
  cases b with
  | false=>simp only[a1X,hw,Option.some.injEq,Prod.mk.injEq]at h;rw[h.2]
  | true =>
   have hp:=h2 hw;unfold a3u at hp;rw[ho,Bool.or_true]at hp;have hp:=(List.all_eq_true.1 hp) j (a9p.1 hj);simp only[Bool.and_eq_true,Bool.not_eq_true']at hp;rcases hcase with⟨t,x,hop⟩ |⟨args,at_,hop⟩
   case inr =>
    have hpu:O1 o.op=false:=by rw[hop];rfl
    simp only[opV,hw,O0,hpu]at h1;unfold V5 at h1;unfold touch at hp;rw[hop]at h1 hp;simp only at h1 hp;split at h1
    ·rename_i r he;split at he
     ·rename_i a b t u ea et;rw[ea]at hp;simp only[evL,a1m]at hp;split at he
      ·rename_i s x e1 e2;rw[e1,e2]at hp;simp only[List.flatMap_cons,List.flatMap_nil,List.append_nil]at hp;simp only[Option.some.injEq,Prod.mk.injEq]at h1;obtain⟨rfl,rfl⟩:=h1;refine c7Y he ?_ (b7i.1 hp.2);have:=hp.1;rcases hh:has j (a1i dep s)with _|_
       ·rfl
       ·have h3:has j (a1i dep s++a1i dep x)=true:=a9p.2 (List.mem_append_left _ (a9p.1 hh));rw[h3]at this;cases this
      ·cases he
     ·cases he
    ·cases h1
   have hpu:O1 o.op=false:=by rw[hop];rfl
   simp only[opV,hw,O0,hpu]at h1;unfold V5 at h1;rw[hop]at h1;simp only at h1;split at h1
   ·rename_i r he;split at he
    ·rename_i y v' _ hg _;split at he
     ·cases he;simp only[Option.some.injEq,Prod.mk.injEq]at h1;obtain⟨rfl,rfl⟩:=h1;rw[D6,if_neg];rintro rfl;have:=hp.2;rw[hg]at this;cases this
     ·cases he
    ·cases he
   ·cases h1
theorem c3g {T:List (Nat×Ty)}{r off:Nat}(h:a6N T t (.ptr r off) v H=some K)(hj:j≠r):hget j K=hget j H:=by
 unfold a6N at h;split at h
 ·rename_i heq;cases heq;split at h
  ·split at h
   ·simp only[gd]at h;split at h
    ·cases h;rw[D6,if_neg hj]
    ·cases h
   ·split at h
    ·simp only[gd]at h;split at h
     ·cases h;rw[D6,if_neg hj]
     ·cases h
    ·cases h
   ·cases h
  ·cases h
 ·cases h
theorem c4Y (ho:c2c sl o=true)(h:a1X env orc L sl ops o fr H=some (v,H'))(hj:has j L=true):hget j H'=hget j H:=by
 unfold c2c at ho;cases hs:b0D o with
 | none=>rw[hs]at ho;cases ho
 | some t =>
  rw[hs]at ho;simp only at ho;obtain⟨ty,x,hop⟩:∃ty x,o.op=.store ty (.tmp t) x:=by
   unfold b0D at hs;split at hs
   ·rename_i ty t' x he;cases hs;exact⟨ty,x,he⟩
   ·cases hs
  obtain⟨h1,h2⟩:=a4K.1 h;cases hw:E5 ops o fr with
  | none=>simp only[a1X,hw]at h;cases h
  | some b =>
   cases b with
   | false=>simp only[a1X,hw,Option.some.injEq,Prod.mk.injEq]at h;rw[h.2]
   | true =>
    have hp:=h2 hw;have k1:a9H o=false:=by unfold a9H;rw[hop]
    have k2:a3z o=false:=by unfold a3z;rw[hop]
    have k3:b2t o=false:=by unfold b2t;rw[hop]
    unfold a3u at hp;rw[k1,k2,k3,hs]at hp;simp only[Bool.or_false,ho]at hp;have hpu:O1 o.op=false:=by rw[hop];rfl
    simp only[opV,hw,O0,hpu]at h1;unfold V5 at h1;rw[hop]at h1;simp only[ev]at h1;cases hl:look t fr with
    | ptr r off =>
     rw[hl]at hp h1;have hne:j≠r:=by
      rintro rfl;simp only[c5E,hj]at hp;cases hp
     split at h1
     ·rename_i q he;split at he
      ·rename_i hh1 hh2;simp only[Option.some.injEq]at hh1;subst hh1;split at he
       ·rename_i K hK;cases he;simp only[Option.some.injEq,Prod.mk.injEq]at h1;obtain⟨rfl,rfl⟩:=h1;exact c3g hK hne
       ·cases he
      ·cases he
     ·cases h1
    | _=>rw[hl]at hp;cases hp
theorem c7N (ho:(a9H o||a3z o||b2t o||c2c sl o)=true)(h:a1X env orc L sl ops o fr H=some (v,H'))(hj:has j L=true):hget j H'=hget j H:=by
 cases hb:b2t o with
 | true=>exact box_keep hb h hj
 | false =>
 cases hst:c2c sl o with
 | true=>exact c4Y hst h hj
 | false =>
 rw[hb,hst,Bool.or_false,Bool.or_false]at ho;cases ha:a3z o with
 | true =>
  rcases a8P ha h with⟨_,rfl,_⟩ |⟨x,h1,h2,rfl,_⟩
  ·rfl
  ·have:=(List.all_eq_true.1 h1) j (a9p.1 hj);rw[D6,if_neg];rintro rfl;rw[h2]at this;cases this
 | false =>
  rw[ha,Bool.or_false]at ho;obtain⟨h1,h2⟩:=a4K.1 h;cases hw:E5 ops o fr with
  | none=>simp only[a1X,hw]at h;cases h
  | some b =>
   cases b with
   | false=>simp only[a1X,hw,Option.some.injEq,Prod.mk.injEq]at h;rw[h.2]
   | true =>
    have hp:=h2 hw;rw[b2S ho]at hp;have hp:=(List.all_eq_true.1 hp) j (a9p.1 hj);simp only[Bool.and_eq_true,Bool.not_eq_true']at hp;simp only[opV,hw]at h1;cases hs:O0 env orc fr H o with
    | none=>rw[hs]at h1;cases h1
    | some r =>
     rw[hs]at h1;cases r with
     | pan _ _=>cases h1
     | val v' K =>
      simp only[Option.some.injEq,Prod.mk.injEq]at h1;obtain⟨rfl,rfl⟩:=h1;obtain⟨g,l,g1,g2,g3⟩:=c5w ho hs;refine c3I g1 (b7i.1 hp.2) fun hq=>?_;rw[g3,hq]at hp;exact hp.1
theorem b0b (hl:b9a sl o=true)(h:a1X env orc L sl ops o fr H=some (v,H'))(hK:∀j,has j L=true->hget j K=hget j H):H'=H/\a1X env orc L sl ops o fr K=some (v,K):=by
 unfold b9a at hl;cases ht:a3S o with
 | none=>rw[ht]at hl;cases hl
 | some t =>
  rw[ht]at hl;simp only at hl;have ho:∃ty,o.op=.load ty (.tmp t):=by
   unfold a3S at ht;split at ht
   ·rename_i ty t' he;cases ht;exact⟨ty,he⟩
   ·cases ht
  obtain⟨ty,ho⟩:=ho;have k1:a9H o=false:=by unfold a9H;rw[ho]
  have k2:a3z o=false:=by unfold a3z;rw[ho]
  have k3:b2t o=false:=by unfold b2t;rw[ho]
  have k4:b0D o=none:=by unfold b0D;rw[ho]
  have hpr:∀G,a3u env L sl fr G o=c0D L (look t fr):=fun G=>by
   unfold a3u;rw[k1,k2,k3,k4,ht];simp only[Bool.or_false,hl]
  have hp:O1 o.op=false:=by rw[ho];rfl
  have he:∀G,O0 env orc fr G o=match a4c env.T ty (look t fr) G with|some v=>some (.val v G)|none=>none:=fun G=>by
   simp only[O0,hp];unfold V5;rw[ho];simp only[ev];rfl
  have hsame:c0D L (look t fr)=true->a4c env.T ty (look t fr) K=a4c env.T ty (look t fr) H:=fun hk=>by
   unfold a4c;cases hv:look t fr with
   | ptr r off =>
    rw[hv]at hk;cases K9 ty env.T with
    | none=>rfl
    | some y=>simp only;rw[hK r hk]
   | cptr cs=>cases K9 ty env.T<;>rfl
   | _=>rw[hv]at hk;cases hk
  simp only[a1X,hpr,he]at h ⊢;cases hw:E5 ops o fr with
  | none=>rw[hw]at h;cases h
  | some b =>
   rw[hw]at h;cases b with
   | false=>simp only[Option.some.injEq,Prod.mk.injEq]at h ⊢;exact⟨h.2.symm,h.1,trivial⟩
   | true =>
    simp only at h ⊢;cases hk:c0D L (look t fr)with
    | false=>rw[hk]at h;cases h
    | true =>
     rw[hk]at h;simp only at h ⊢;rw[hsame hk];cases hv:a4c env.T ty (look t fr) H with
     | none=>rw[hv]at h;cases h
     | some u=>rw[hv]at h;simp only[Option.some.injEq,Prod.mk.injEq]at h ⊢;exact⟨h.2.symm,h.1,trivial⟩
theorem b5l (hc:a8L env o.op=true)(h:a1X env orc L sl ops o fr H=some (v,H')):H'=H:=b7A hc (a4K.1 h).1
theorem b3J {o:Obj}(h:(L.all fun r=>isSome (hget r H))=true):(L.all fun r=>isSome (hget r (hset k o H)))=true:=by
 rw[List.all_eq_true]at h ⊢;intro r hr;rw[D6];split
 ·rfl
 ·exact h r hr
theorem c3P (hc:a9H o=true){x:Obj}(hp:a3u env L sl fr H o=true)(hs:O0 env orc fr H o=some r)(hk:hget k r.heap=none)(hne:∀i,i<64->newName o+i≠k) :
  a3u env L sl fr (hset k x H) o=true/\O0 env orc fr (hset k x H) o=some (r.add k x)/\hget k H=none:=by
 obtain⟨g,l,g1,g2,g3⟩:=c5w hc hs;have hk0:=c6P g1 hk;refine⟨?_,by rw[g2];exact c6O g1 hk hne,hk0⟩;rw[b2S hc,List.all_eq_true]at hp ⊢;have ht:touch env fr (hset k x H) o=touch env fr H o:=by
  rw[g3,g3];cases hq:env.quiet g with
  | true=>rfl
  | false =>
   obtain⟨r0,g0⟩:=c6Q g1;obtain⟨ns,a2,H2,H3,v,v4,h1,h2,h3,_⟩:=a8f hq g0;refine b0z (b4Z hk0) _ _ _ ?_;rw[h1];exact(b3n (b4Z hk0 (o:=x)) h3).2
 intro j hj;have:=hp j hj;simp only[Bool.and_eq_true]at this ⊢;rw[ht];refine⟨this.1,?_⟩;rw[D6];split
 ·rfl
 ·exact this.2
theorem swapP (hc:a6T env ops sl x y=true){vx vy:V}{Hx Hy:Hp}(h1:a1X env orc L sl ops x fr H=some (vx,Hx))(h3:a1X env orc L sl ops y (V9 x.dst vx fr) Hx=some (vy,Hy)) :
  ∃K,a1X env orc L sl ops y fr H=some (vy,K)/\a1X env orc L sl ops x (V9 y.dst vy fr) K=some (vx,Hy):=by
 simp only[a6T,Bool.and_eq_true]at hc;obtain⟨ha,hc⟩:=hc;obtain⟨a1,a2,a3⟩:=Oper.apart_spec ha;have e1:a1X env orc L sl ops y (V9 x.dst vx fr) Hx=a1X env orc L sl ops y fr Hx:=b0T fun t ht=>by
  rw[a3j,if_neg];exact fun hd=>a1 t hd ht
 have e2:∀K,a1X env orc L sl ops x (V9 y.dst vy fr) K=a1X env orc L sl ops x fr K:=fun K=>b0T fun t ht=>by
  rw[a3j,if_neg];exact fun hd=>a3 t hd ht
 rw[e1]at h3;simp only[e2];simp only[Bool.or_eq_true,Bool.and_eq_true,Bool.not_eq_true']at hc;rcases hc with((hc|hc) |⟨hc,hc'⟩) |(⟨hc,hc'⟩ |⟨hc,hn⟩)
 ·obtain⟨rfl,g⟩:=b0f hc h1;exact⟨Hy,h3,g Hy⟩
 ·obtain⟨rfl,g⟩:=b0f hc h3;exact⟨H,g H,h1⟩
 ·have:=b5l hc h1;subst this;have:=b5l hc' h3;subst this;exact⟨_,h3,h1⟩
 ·have hx:=(b0b hc h1 (fun _ _=>rfl)).1;subst hx;exact⟨Hy,h3,(b0b hc h1 fun j hj=>c7N (by simp only[Bool.or_eq_true];exact hc') h3 hj).2⟩
 ·have hay:a3z y=true:=by rcases hc with⟨_,h⟩ |⟨_,h⟩<;>exact h
  rcases a8P hay h3 with⟨_,rfl,g⟩ |⟨z,g1,g2,rfl,g3⟩
  ·exact⟨H,g H,h1⟩
  ·rcases hc with⟨hcx,_⟩ |⟨hax,_⟩
   ·obtain⟨p1,p2⟩:=a4K.1 h1;cases hw:E5 ops x fr with
    | none=>simp only[a1X,hw]at h1;cases h1
    | some b =>
     cases b with
     | false =>
      simp only[a1X,hw,Option.some.injEq,Prod.mk.injEq]at h1;obtain⟨rfl,rfl⟩:=h1;exact⟨_,g3 _ g2 g1,by simp only[a1X,hw]⟩
     | true =>
      have hp:=p2 hw;simp only[opV,hw]at p1;cases hs:O0 env orc fr H x with
      | none=>rw[hs]at p1;cases p1
      | some r =>
       rw[hs]at p1;cases r with
       | pan _ _=>cases p1
       | val v' K =>
        simp only[Option.some.injEq,Prod.mk.injEq]at p1;obtain⟨rfl,rfl⟩:=p1;obtain⟨q1,q2,q3⟩:=c3P (x:=z) hcx hp hs g2 (b2x hn);refine⟨_,g3 H q3 ?_,?_⟩
        ·have:=hp;rw[b2S hcx,List.all_eq_true]at this;rw[List.all_eq_true];intro r hr;have:=this r hr;simp only[Bool.and_eq_true]at this;exact this.2
        ·simp only[a1X,hw,q1,q2];rfl
   ·rcases a8P hax h1 with⟨_,rfl,g4⟩ |⟨u,k1,k2,rfl,k3⟩
    ·exact⟨_,g3 _ g2 g1,g4 _⟩
    ·have hne:newName y≠newName x:=by
      intro he;rw[he]at hn;simp at hn
     rw[D6,if_neg hne]at g2;refine⟨_,g3 H g2 k1,?_⟩;rw[a98 hne];exact k3 _ (by rw[D6,if_neg (Ne.symm hne)];exact k2) (b3J k1)
def isSto (o:Oper):Bool:=match b0D o with
 | some _=>true
 | none=>false
def b39 (o:Oper):Bool:=!O1 o.op && !(isLd o||b2t o||isSto o) && !(a3z o)
theorem c0F (h:b3H env orc L sl ops o fr H v H'):b39 o=true:=by
 obtain⟨_,_,h⟩:=h;unfold b39;cases hp:O1 o.op with
 | true =>
  simp only[O0,hp]at h;split at h<;>cases h
 | false =>
  simp only[O0,hp]at h;cases hbx:b2t o with
  | true =>
   have hcase:(∃t x,o.op=.box t x) ∨ ∃args at_,o.op=.call ⟨.builtin .append,args,at_⟩:=by
    unfold b2t at hbx;split at hbx
    ·rename_i t x he;exact .inl ⟨t,x,he⟩
    ·rename_i args at_ he;exact .inr ⟨args,at_,he⟩
    ·cases hbx
   unfold V5 at h;rcases hcase with⟨t,x,hop⟩ |⟨args,at_,hop⟩
   ·rw[hop]at h;simp only at h;split at h
    ·split at h<;>cases h
    ·cases h
   ·rw[hop]at h;simp only at h;split at h
    ·split at h
     ·exact absurd h (fun h=>c5d h)
     ·cases h
    ·cases h
  | false =>
  cases hsto:isSto o with
  | true =>
   obtain⟨ty,t,x,hop⟩:∃ty t x,o.op=.store ty (.tmp t) x:=by
    unfold isSto at hsto;cases hs:b0D o with
    | none=>rw[hs]at hsto;cases hsto
    | some t =>
     unfold b0D at hs;split at hs
     ·rename_i ty t' x he;exact⟨ty,t',x,he⟩
     ·cases hs
   unfold V5 at h;rw[hop]at h;simp only at h;split at h
   ·split at h<;>cases h
   ·cases h
  | false =>
  cases hl:isLd o with
  | true =>
   obtain⟨t,ht⟩:=b5j hl;have ho:∃ty,o.op=.load ty (.tmp t):=by
    unfold a3S at ht;split at ht
    ·rename_i ty t' he;cases ht;exact⟨ty,he⟩
    ·cases ht
   obtain⟨ty,ho⟩:=ho;unfold V5 at h;rw[ho]at h;simp only at h;split at h
   ·split at h<;>cases h
   ·cases h
  | false =>
   cases ha:a3z o with
   | true =>
    obtain⟨t,ho⟩:=b3I ha;unfold V5 at h;rw[ho]at h;simp only at h;split at h<;>cases h
   | false=>rfl
end
variable {z:Obj} {x y:Oper} {v:V}
section
variable {env:Env} {orc:Orc} {ops:Array Oper} {L sl:List Nat} {fr fr':Fr} {H H':Hp}
theorem a4X {l:List Oper}{r:Res}:∀{A:List Oper} {fr:Fr} {H:Hp},J7 env orc L sl ops (A++l) fr H=some r ↔
  (∃fA HA,J7 env orc L sl ops A fr H=some (.normal,fA,HA)/\J7 env orc L sl ops l fA HA=some r) ∨ ∃v f H',J7 env orc L sl ops A fr H=some (.panic v,f,H')/\r =(.panic v,f,H')
 | [],fr,H=>by
  simp only[List.nil_append,J7,Option.some.injEq,Prod.mk.injEq,true_and,reduceCtorEq,false_and,exists_false,or_false];exact⟨fun h=>⟨fr,H,⟨rfl,rfl⟩,h⟩,fun⟨_,_,⟨h1,h2⟩,h⟩=>by subst h1 h2;exact h⟩
 | o::A,fr,H=>by
  rw[List.cons_append,a0e];constructor
  ·rintro(⟨v,H',h1,h2⟩ |⟨v,H',h1,h2⟩)
   ·rcases a4X.1 h2 with⟨fA,HA,h3,h4⟩ |⟨v',f,K,h3,h4⟩
    ·exact .inl ⟨fA,HA,a0e.2 (.inl ⟨v,H',h1,h3⟩),h4⟩
    ·exact .inr ⟨v',f,K,a0e.2 (.inl ⟨v,H',h1,h3⟩),h4⟩
   ·exact .inr ⟨v,fr,H',a0e.2 (.inr ⟨v,H',h1,rfl⟩),h2⟩
  ·rintro(⟨fA,HA,h1,h2⟩ |⟨v',f,K,h1,h2⟩)
   ·rcases a0e.1 h1 with⟨v,H',h3,h4⟩ |⟨v,H',h3,h4⟩
    ·exact .inl ⟨v,H',h3,a4X.2 (.inl ⟨fA,HA,h4,h2⟩)⟩
    ·cases h4
   ·rcases a0e.1 h1 with⟨v,H',h3,h4⟩ |⟨v,H',h3,h4⟩
    ·exact .inl ⟨v,H',h3,a4X.2 (.inr ⟨v',f,K,h4,h2⟩)⟩
    ·cases h4;exact .inr ⟨v',K,h3,h2⟩
theorem c2X (ha:x.apart ops y=true)(vx vy:V)(fr:Fr):a9e (V9 y.dst vy (V9 x.dst vx fr)) (V9 x.dst vx (V9 y.dst vy fr)):=by
 obtain⟨a1,a2,a3⟩:=Oper.apart_spec ha;intro t;simp only[a3j];by_cases hx:x.dst=some t
 ·rw[if_pos hx,if_neg (a2 t hx),if_pos hx]
 ·rw[if_neg hx];by_cases hy:y.dst=some t
  ·rw[if_pos hy,if_neg hx]
  ·rw[if_neg hy,if_neg hx]
theorem b2j (h:a6T env ops sl x y=true):x.apart ops y=true:=by
 simp only[a6T,Bool.and_eq_true]at h;exact h.1
theorem c5t {y:Oper}:∀{A:List Oper} {fr fA:Fr} {H HA:Hp} {vy:V} {Hy:Hp},(∀x∈A,a6T env ops sl x y=true)->J7 env orc L sl ops A fr H=some (.normal,fA,HA)->a1X env orc L sl ops y fA HA=some (vy,Hy) ->
  ∃K f',a1X env orc L sl ops y fr H=some (vy,K)/\J7 env orc L sl ops A (V9 y.dst vy fr) K=some (.normal,f',Hy)/\a9e (V9 y.dst vy fA) f'
 | [],fr,fA,H,HA,vy,Hy,_,h1,h2=>by
  simp only[J7,Option.some.injEq,Prod.mk.injEq,true_and]at h1;obtain⟨rfl,rfl⟩:=h1;exact⟨Hy,_,h2,rfl,.refl _⟩
 | x::A,fr,fA,H,HA,vy,Hy,hc,h1,h2=>by
  rcases a0e.1 h1 with⟨vx,Hx,h3,h4⟩ |⟨_,_,_,h4⟩
  ·obtain⟨K,f',h5,h6,h7⟩:=c5t (fun z hz=>hc z (List.mem_cons_of_mem _ hz)) h4 h2;obtain⟨K',h8,h9⟩:=swapP (hc x (List.mem_cons_self ..)) h3 h5;obtain⟨f2,h10,h11⟩:=a9n (c2X (b2j (hc x (List.mem_cons_self ..))) vx vy fr) h6;exact⟨K',f2,h8,a0e.2 (.inl ⟨vx,K,h9,h10⟩),h7.trans h11⟩
  ·cases h4
theorem neutral (hc:a6T env ops sl x y=true)(hp:O1 y.op=false)(ha:a3z y=false)(h:a1X env orc L sl ops x fr H=some (v,H')):H'=H:=by
 simp only[a6T,Bool.and_eq_true,Bool.or_eq_true,hp,ha]at hc;rcases hc.2 with((hc|hc) |⟨hc,_⟩) |(⟨hc,_⟩ |⟨hc,_⟩)
 ·exact(b0f hc h).1
 ·cases hc
 ·exact b5l hc h
 ·exact(b0b hc h (fun _ _=>rfl)).1
 ·rcases hc with⟨_,h⟩ |⟨_,h⟩<;>cases h
theorem c5u {y:Oper}(hyp:O1 y.op=false)(hya:a3z y=false){v:V}:∀{A:List Oper} {fr fA:Fr} {H HA:Hp},(∀x∈A,a6T env ops sl x y=true)->J7 env orc L sl ops A fr H=some (.normal,fA,HA)->b3H env orc L sl ops y fA HA v H' ->
  b3H env orc L sl ops y fr H v H'
 | [],fr,fA,H,HA,_,h1,h2=>by
  simp only[J7,Option.some.injEq,Prod.mk.injEq,true_and]at h1;obtain⟨rfl,rfl⟩:=h1;exact h2
 | x::A,fr,fA,H,HA,hc,h1,h2=>by
  rcases a0e.1 h1 with⟨vx,Hx,h3,h4⟩ |⟨_,_,_,h4⟩
  ·have h5:=c5u hyp hya (fun z hz=>hc z (List.mem_cons_of_mem _ hz)) h4 h2;have hx:=hc x (List.mem_cons_self ..);have:=neutral hx hyp hya h3;subst this;obtain⟨a1,_,_⟩:=Oper.apart_spec (b2j hx);exact b2c (fun t ht=>by rw[a3j,if_neg];exact fun hd=>a1 t hd ht) h5
  ·cases h4
theorem frameN (hc:a6T env ops sl x y=true)(hy:a3z y=true)(h:a1X env orc L sl ops x fr H=some (v,H'))(hk:hget (newName y) H'=none) :
  a1X env orc L sl ops x fr (hset (newName y) z H)=some (v,hset (newName y) z H')/\hget (newName y) H=none:=by
 simp only[a6T,Bool.and_eq_true]at hc;have hyp:=(b2d hy).2.2;have hc:=hc.2;simp only[Bool.or_eq_true,Bool.and_eq_true,hyp,Bool.not_eq_true']at hc;have hyc:a8L env y.op=false:=by obtain⟨t,ho⟩:=b3I hy;rw[ho];rfl
 rcases hc with((hc|hc) |⟨_,hc⟩) |(⟨hc,_⟩ |⟨hc,hn⟩)
 ·obtain⟨rfl,g⟩:=b0f hc h;exact⟨g _,hk⟩
 ·cases hc
 ·rw[hyc]at hc;cases hc
 ·have hx:=(b0b hc h (fun _ _=>rfl)).1;subst hx;refine⟨?_,hk⟩;unfold b9a at hc;cases ht:a3S x with
  | none=>rw[ht]at hc;cases hc
  | some t =>
   have ho:∃ty,x.op=.load ty (.tmp t):=by
    unfold a3S at ht;split at ht
    ·rename_i ty t' he;cases ht;exact⟨ty,he⟩
    ·cases ht
   obtain⟨ty,ho⟩:=ho;have k1:a9H x=false:=by unfold a9H;rw[ho]
   have k2:a3z x=false:=by unfold a3z;rw[ho]
   have k3:b2t x=false:=by unfold b2t;rw[ho]
   have hpr:∀G,a3u env L sl fr G x=a3u env L sl fr H' x:=fun G=>by unfold a3u;rw[k1,k2,k3];rfl
   have hp:O1 x.op=false:=by rw[ho];rfl
   have he:∀G,O0 env orc fr G x=match a4c env.T ty (look t fr) G with|some v=>some (.val v G)|none=>none:=fun G=>by
    simp only[O0,hp];unfold V5;rw[ho];simp only[ev];rfl
   simp only[a1X,he]at h ⊢;rw[hpr];cases hw:E5 ops x fr with
   | none=>rw[hw]at h;cases h
   | some b =>
    rw[hw]at h;cases b with
    | false=>simp only[Option.some.injEq,Prod.mk.injEq]at h ⊢;exact⟨h.1,trivial⟩
    | true =>
     simp only at h ⊢;cases hq:a3u env L sl fr H' x with
     | false=>rw[hq]at h;cases h
     | true =>
      rw[hq]at h;simp only at h ⊢;have hv:∀u,a4c env.T ty (look t fr) H'=some u->a4c env.T ty (look t fr) (hset (newName y) z H')=some u:=by
       intro u hu;unfold a4c at hu ⊢;cases hl:look t fr with
       | ptr r off =>
        rw[hl]at hu;cases hT:K9 ty env.T with
        | none=>rw[hT]at hu;cases hu
        | some yy =>
         rw[hT]at hu;simp only at hu ⊢;have:hget r (hset (newName y) z H')=hget r H':=by
          rw[D6,if_neg];rintro rfl;rw[hk]at hu;cases hu
         rw[this];exact hu
       | cptr cs=>rw[hl]at hu;cases hT:K9 ty env.T<;>(rw[hT]at hu;exact hu)
       | _=>rw[hl]at hu;cases hT:K9 ty env.T<;>(rw[hT]at hu;cases hu)
      cases hu:a4c env.T ty (look t fr) H' with
      | none=>rw[hu]at h;cases h
      | some u =>
       rw[hu]at h;rw[hv u hu];simp only[Option.some.injEq,Prod.mk.injEq]at h ⊢;exact⟨h.1,trivial⟩
 ·rcases hc with⟨hcx,_⟩ |⟨hax,_⟩
  ·obtain⟨p1,p2⟩:=a4K.1 h;cases hw:E5 ops x fr with
   | none=>simp only[a1X,hw]at h;cases h
   | some b =>
    cases b with
    | false =>
     simp only[a1X,hw,Option.some.injEq,Prod.mk.injEq]at h;obtain⟨rfl,rfl⟩:=h;exact⟨by simp only[a1X,hw],hk⟩
    | true =>
     have hp:=p2 hw;simp only[opV,hw]at p1;cases hs:O0 env orc fr H x with
     | none=>rw[hs]at p1;cases p1
     | some r =>
      rw[hs]at p1;cases r with
      | pan _ _=>cases p1
      | val v' K =>
       simp only[Option.some.injEq,Prod.mk.injEq]at p1;obtain⟨rfl,rfl⟩:=p1;obtain⟨q1,q2,q3⟩:=c3P (x:=z) hcx hp hs hk (b2x hn);exact⟨by simp only[a1X,hw,q1,q2];rfl,q3⟩
  ·rcases a8P hax h with⟨_,rfl,g4⟩ |⟨u,k1,k2,rfl,k3⟩
   ·exact⟨g4 _,hk⟩
   ·have hne:newName y≠newName x:=by intro he;rw[he]at hn;simp at hn
    rw[D6,if_neg hne]at hk;refine⟨?_,hk⟩;rw[a98 hne];exact k3 _ (by rw[D6,if_neg (Ne.symm hne)];exact k2) (b3J k1)
theorem framePan (hc:a6T env ops sl x y=true)(hy:a3z y=true)(h:b3H env orc L sl ops x fr H v H')(hk:hget (newName y) H'=none) :
  b3H env orc L sl ops x fr (hset (newName y) z H) v (hset (newName y) z H')/\hget (newName y) H=none/\(L.all fun r=>isSome (hget r H))=true:=by
 have hm:=c0F h;have hyp:=(b2d hy).2.2;have hyc:a8L env y.op=false:=by obtain⟨t,ho⟩:=b3I hy;rw[ho];rfl
 simp only[b39,Bool.and_eq_true,Bool.not_eq_true']at hm;simp only[a6T,Bool.and_eq_true]at hc;have hc:=hc.2;simp only[Bool.or_eq_true,Bool.and_eq_true,hyp,hm.1.1,hm.2,hyc,Bool.not_eq_true']at hc;have hcx:a9H x=true:=by
  rcases hc with((hc|hc) |⟨_,hc⟩) |(⟨hc,_⟩ |⟨hc,hn⟩)
  ·cases hc
  ·cases hc
  ·cases hc
  ·have:=hm.1.2;simp only[Bool.or_eq_false_iff]at this;have:=this.1.1;unfold b9a at hc;unfold isLd at this;cases ht:a3S x with
   | none=>rw[ht]at hc;cases hc
   | some t=>rw[ht]at this;cases this
  ·rcases hc with⟨h,_⟩ |⟨h,_⟩
   ·exact h
   ·cases h
 have hn:Nat.beq (newName x) (newName y)=false:=by
  rcases hc with((hc|hc) |⟨_,hc⟩) |(⟨hc,_⟩ |⟨hc,hn⟩)
  ·cases hc
  ·cases hc
  ·cases hc
  ·have:=hm.1.2;simp only[Bool.or_eq_false_iff]at this;have:=this.1.1;unfold b9a at hc;unfold isLd at this;cases ht:a3S x with
   | none=>rw[ht]at hc;cases hc
   | some t=>rw[ht]at this;cases this
  ·exact hn
 obtain⟨h1,h2,h3⟩:=h;obtain⟨q1,q2,q3⟩:=c3P (x:=z) hcx h2 h3 hk (b2x hn);refine⟨⟨h1,q1,q2⟩,q3,?_⟩;rw[b2S hcx,List.all_eq_true]at h2;rw[List.all_eq_true];intro r hr;have:=h2 r hr;simp only[Bool.and_eq_true]at this;exact this.2
theorem c7I (hc:a6T env ops sl x y=true)(hy:a3z y=true)(h:a1X env orc L sl ops x fr H=some (v,H'))(hs:(L.all fun r=>isSome (hget r H'))=true):(L.all fun r=>isSome (hget r H))=true:=by
 have hyp:=(b2d hy).2.2;have hyc:a8L env y.op=false:=by obtain⟨t,ho⟩:=b3I hy;rw[ho];rfl
 simp only[a6T,Bool.and_eq_true]at hc;have hc:=hc.2;simp only[Bool.or_eq_true,Bool.and_eq_true,hyp,hyc,Bool.not_eq_true']at hc;rcases hc with((hc|hc) |⟨_,hc⟩) |(⟨hc,_⟩ |⟨hc,hn⟩)
 ·rw[<-(b0f hc h).1];exact hs
 ·cases hc
 ·cases hc
 ·rw[<-(b0b hc h (fun _ _=>rfl)).1];exact hs
 ·rcases hc with⟨hcx,_⟩ |⟨hax,_⟩
  ·obtain⟨p1,p2⟩:=a4K.1 h;cases hw:E5 ops x fr with
   | none=>simp only[a1X,hw]at h;cases h
   | some b =>
    cases b with
    | false =>
     simp only[a1X,hw,Option.some.injEq,Prod.mk.injEq]at h;rw[h.2];exact hs
    | true =>
     have hp:=p2 hw;rw[b2S hcx,List.all_eq_true]at hp;rw[List.all_eq_true];intro r hr;have:=hp r hr;simp only[Bool.and_eq_true]at this;exact this.2
  ·rcases a8P hax h with⟨_,rfl,g4⟩ |⟨u,k1,k2,rfl,k3⟩
   ·exact hs
   ·exact k1
theorem b8P {y:Oper}(hy:a3z y=true){v:V}{z:Obj}{u:V}:∀{A:List Oper} {fr f1:Fr} {H H1:Hp},(∀x∈A,a6T env ops sl x y=true)->J7 env orc L sl ops A fr H=some (.panic v,f1,H1)->hget (newName y) H1=none ->
  hget (newName y) H=none/\(L.all fun r=>isSome (hget r H))=true /\ ∃f2,J7 env orc L sl ops A (V9 y.dst u fr) (hset (newName y) z H)=some (.panic v,f2,hset (newName y) z H1)
 | [],fr,f1,H,H1,_,h,_=>by simp only[J7]at h;cases h
 | x::A,fr,f1,H,H1,hc,h,hk=>by
  have hx:=hc x (List.mem_cons_self ..);have ha:=b2j hx;obtain⟨a1,a2,a3⟩:=Oper.apart_spec ha;rcases a0e.1 h with⟨vx,Hx,h3,h4⟩ |⟨v',K,h3,h4⟩
  ·obtain⟨g1,g2,f2,g3⟩:=b8P hy (fun w hw=>hc w (List.mem_cons_of_mem _ hw)) h4 hk;obtain⟨k1,k2⟩:=frameN (z:=z) hx hy h3 g1;have k1':a1X env orc L sl ops x (V9 y.dst u fr) (hset (newName y) z H)=some (vx,hset (newName y) z Hx):=by
    rw[<-k1];exact b0T fun t ht=>by rw[a3j,if_neg];exact fun hd=>a3 t hd ht
   obtain⟨f3,k3,_⟩:=a9n (c2X ha vx u fr) g3;exact⟨k2,c7I hx hy h3 g2,f3,a0e.2 (.inl ⟨_,_,k1',k3⟩)⟩
  ·simp only[Prod.mk.injEq,Ex.panic.injEq]at h4;obtain⟨rfl,rfl,rfl⟩:=h4;obtain⟨k1,k2,k3⟩:=framePan (z:=z) hx hy h3 hk;refine⟨k2,k3,_,a0e.2 (.inr ⟨v,_,b2c (fun t ht=>?_) k1,rfl⟩)⟩;rw[a3j,if_neg];exact fun hd=>a3 t hd ht
end
section
variable {env:Env} {orc:Orc} {ops:Array Oper} {L sl:List Nat} {fr fr':Fr} {H H':Hp}
def bitB (m i:Nat):Bool:=Nat.beq (Nat.land (Nat.shiftRight m i) 1) 1
def ancB (M:List Nat)(j i:Nat):Bool:=bitB (M.getD j 0) i
def b6s (ops:Array Oper)(M:List Nat):Bool:=(List.range ops.size).all fun j=>match ops[j]? with
 | none=>true
 | some o=>(List.range ops.size).all fun i=>!ancB M j i||o.after.toList.any fun e=>Region.binds .any e&&Nat.blt e.on j&&(Nat.beq e.on i||ancB M e.on i)
def c2z (env:Env)(ops:Array Oper)(sl M:List Nat)(i j:Nat):Bool:=match ops[i]?,ops[j]? with
 | some x,some y=>ancB M j i ||(a6T env ops sl x y&&(!b39 x||a3z y))
 | _,_=>true
def b48 (ops:Array Oper)(i j:Nat):Bool:=match ops[i]?,ops[j]? with
 | some x,some y=>!(a3z x&&a3z y) || !Nat.beq (newName x) (newName y)
 | _,_=>true
def c0E (env:Env)(ops:Array Oper)(sl M:List Nat):List Nat->Bool | []=>true|i::r=>(r.all fun j=>c2z env ops sl M i j&&b48 ops i j && !Nat.beq i j)&&c0E env ops sl M r
def alB (env:Env)(o:Oper):Bool:=match o.op with
 | .alloc t=>(match o.guard with|none=>isSome (K9 t env.T)|some _=>false)
 | _=>true
def sepB (env:Env)(ops:Array Oper)(S sl M:List Nat):Bool :=b5b ops&&b6s ops M&&c0E env ops sl M S&&((List.range ops.size).all fun i=>has i S)&&(S.all fun i=>Nat.blt i ops.size)&&ops.toList.all (alB env)
def a5y (S:List Nat)(listed:Array Bool):List Nat:=S.filter fun i=>!listed.getD i true
def b6d (ops:Array Oper)(listed:Array Bool):Prop:=∀(i:Nat) (o:Oper) (e:Edge),listed.getD i true=true->ops[i]? = some o->e∈o.after.toList->Region.binds .any e=true->listed.getD e.on false=true
theorem b88 {listed:Array Bool}{i:Nat}(h:listed.getD i false=true):listed.getD i true=true:=by
 simp only[Array.getD_eq_getD_getElem?]at h ⊢;cases hq:listed[i]? with
 | none=>rfl
 | some b=>rw[hq]at h;exact h
theorem b6G {M:List Nat}(hM:b6s ops M=true){listed:Array Bool}(hc:b6d ops listed):∀(n j i:Nat),j<n->j<ops.size->i<ops.size->ancB M j i=true ->
  (∀(o:Oper) (e:Edge),ops[j]? = some o->e∈o.after.toList->Region.binds .any e=true->listed.getD e.on false=true)->listed.getD i false=true
 | 0,j,i,h,_,_,_,_=>by omega
 | n+1,j,i,hn,hj,hi,ha,he=>by
  have h:=hM;simp only[b6s,List.all_eq_true,List.mem_range]at h;have h:=h j hj;have ho:ops[j]? = some ops[j]:=by simp[hj]
  rw[ho]at h;simp only[List.all_eq_true,List.mem_range]at h;have h:=h i hi;rw[ha]at h;simp only[Bool.not_true,Bool.false_or,List.any_eq_true,Bool.and_eq_true,Bool.or_eq_true]at h;obtain⟨e,h1,⟨h2,h3⟩,h4⟩:=h;have hl:=he _ e ho h1 h2;have hlt:e.on<j:=by simpa [Nat.blt_eq]using h3
  rcases h4 with h4|h4
  ·rw[Nat.eq_of_beq_eq_true h4]at hl;exact hl
  ·exact b6G hM hc n e.on i (by omega) (by omega) hi h4 (fun o' e' ho' he' hb'=>hc e.on o' e' (b88 hl) ho' he' hb')
theorem a9v {M:List Nat}:∀{S:List Nat},c0E env ops sl M S=true->S.Pairwise (fun i j=>c2z env ops sl M i j=true/\b48 ops i j=true/\i≠j)
 | [],_=>.nil
 | i::r,h=>by
  simp only[c0E,Bool.and_eq_true,List.all_eq_true,Bool.not_eq_true']at h;refine .cons (fun j hj=>?_) (a9v h.2);have:=h.1 j hj;refine⟨this.1.1,this.1.2,?_⟩;rintro rfl;have:=this.2;simp at this
theorem least:∀(l:List Nat),l ≠ [] -> ∃i∈l,∀j∈l,i<=j
 | [],h=>absurd rfl h
 | [a],_=>⟨a,List.mem_singleton.2 rfl,fun j hj=>by rw[List.mem_singleton.1 hj];exact Nat.le_refl _⟩
 | a::b::r,_=>by
  obtain⟨i,hi,h⟩:=least (b::r) (by simp);rcases Nat.lt_or_ge i a with h1|h1
  ·refine⟨i,List.mem_cons_of_mem _ hi,fun j hj=>?_⟩;rcases List.mem_cons.1 hj with rfl|hj
   ·omega
   ·exact h j hj
  ·refine⟨a,List.mem_cons_self ..,fun j hj=>?_⟩;rcases List.mem_cons.1 hj with rfl|hj
   ·exact Nat.le_refl _
   ·exact Nat.le_trans h1 (h j hj)
theorem c6d {v:V}:∀{A:List Oper} {fr f1:Fr} {H H1:Hp},J7 env orc L sl ops A fr H=some (.panic v,f1,H1) -> ∃x∈A,b39 x=true
 | [],_,_,_,_,h=>by simp only[J7]at h;cases h
 | x::A,_,_,_,_,h=>by
  rcases a0e.1 h with⟨_,_,_,h4⟩ |⟨_,_,h3,_⟩
  ·obtain⟨z,hz,hm⟩:=c6d h4;exact⟨z,List.mem_cons_of_mem _ hz,hm⟩
  ·exact⟨x,List.mem_cons_self ..,c0F h3⟩
theorem opVP_al {o:Oper}(ha:a3z o=true)(hb:alB env o=true)(hk:hget (newName o) H=none)(hL:(L.all fun r=>isSome (hget r H))=true) :
  ∃u z,a1X env orc L sl ops o fr H=some (u,hset (newName o) z H):=by
 obtain⟨t,ho⟩:=b3I ha;unfold alB at hb;rw[ho]at hb;simp only at hb;cases hg:o.guard with
 | some x=>rw[hg]at hb;cases hb
 | none =>
  rw[hg]at hb;simp only at hb;cases hT:K9 t env.T with
  | none=>rw[hT]at hb;cases hb
  | some y =>
   refine⟨.ptr (newName o) 0,.row y.zero,?_⟩;have hp:=(b2d ha).2.2;have he:V5 env orc fr H o=some (.val (.ptr (newName o) 0) (hset (newName o) (.row y.zero) H)):=by
    unfold V5;rw[ho];simp only[hT,hk]
   simp only[a1X,E5,hg,b7Q ha,hL,O0,hp,he]
theorem b6q {S M:List Nat}(hE:b5b ops=true)(hM:b6s ops M=true)(hall:∀j,j<ops.size->j∈S)(hlt:∀j,j∈S->j<ops.size)(hP:S.Pairwise (fun i j=>c2z env ops sl M i j=true/\b48 ops i j=true/\i≠j))(hal:∀o∈ops.toList,alB env o=true) :
  ∀(fuel t:Nat) (listed:Array Bool) (fr:Fr) (H:Hp) (ex:Ex) (f1:Fr) (H1:Hp),listed.size=ops.size->b6d ops listed ->(a5y S listed).length<=fuel ->
  J7 env orc L sl ops ((a5y S listed).filterMap (ops[·]?)) fr H=some (ex,f1,H1) ->
  (∀v,ex=.panic v -> ∀i∈a5y S listed,∀o,ops[i]? = some o->a3z o=true->hget (newName o) H1=none) ->
  ∃f2 H2,J7 env orc L sl ops ((Region.linearise.go .any ops fuel t listed []).filterMap (ops[·]?)) fr H=some (ex,f2,H2)/\(ex=.normal->H2=H1/\a9e f1 f2)/\Sub H1 H2
 | 0,t,listed,fr,H,ex,f1,H1,hsz,hc,hl,h,hab=>by
  have:a5y S listed=[]:=by simpa using hl
  rw[this]at h;simp only[Region.linearise.go,List.reverse_nil];exact⟨f1,H1,h,fun _=>⟨rfl,.refl _⟩,.refl _⟩
 | fuel+1,t,listed,fr,H,ex,f1,H1,hsz,hc,hl,h,hab=>by
  have hpw:(a5y S listed).Pairwise (fun i j=>c2z env ops sl M i j=true/\b48 ops i j=true/\i≠j):=List.Pairwise.sublist List.filter_sublist hP;have hnd:(a5y S listed).Nodup:=hpw.imp fun h=>h.2.2;have hmem:∀j,j∈a5y S listed↔j<ops.size/\listed.getD j true=false:=fun j=>by
   simp only[a5y,List.mem_filter,Bool.not_eq_true'];exact⟨fun h=>⟨hlt j h.1,h.2⟩,fun h=>⟨hall j h.1,h.2⟩⟩
  have hready:∀j,j∈Region.ready .any ops listed↔j∈a5y S listed /\ ∀o,ops[j]? = some o -> ∀e∈o.after.toList,Region.binds .any e=true->listed.getD e.on false=true:=by
   intro j;rw[hmem];simp only[Region.ready,List.mem_filter,List.mem_range,Bool.and_eq_true,Bool.not_eq_true',and_assoc];refine and_congr_right fun hj=>and_congr_right fun _=>?_;have ho:ops[j]? = some ops[j]:=by simp[hj]
   rw[ho];simp only[Option.map_some,Option.getD_some,Array.all_eq_true_iff_forall_mem,Bool.or_eq_true,Bool.not_eq_true',Option.some.injEq];constructor
   ·rintro h1 o rfl e he hb;rcases h1 e (by simpa using he)with h2|h2
    ·rw[hb]at h2;cases h2
    ·exact h2
   ·intro h1 e he;cases hb:Region.binds .any e with
    | false=>exact .inl rfl
    | true=>exact .inr (h1 _ rfl e (by simpa using he) hb)
  simp only[Region.linearise.go];change ∃f2 H2,J7 env orc L sl ops ((match (Region.ready .any ops listed)[t%(Region.ready .any ops listed).length]? with
   | some i=>Region.linearise.go .any ops fuel (t/(Region.ready .any ops listed).length) (listed.setIfInBounds i true) [i]
   | none=>[].reverse).filterMap (ops[·]?)) fr H=some (ex,f2,H2)/\(ex=.normal->H2=H1/\a9e f1 f2)/\Sub H1 H2
  cases hi:(Region.ready .any ops listed)[t%(Region.ready .any ops listed).length]? with
  | none =>
   have hnil:Region.ready .any ops listed=[]:=by
    cases hr:Region.ready .any ops listed with
    | nil=>rfl
    | cons x xs =>
     rw[hr]at hi;have hlt:t%(x::xs).length<(x::xs).length:=Nat.mod_lt _ (by simp);simp at hi;simp at hlt;omega
   have hr0:a5y S listed=[]:=by
    by_cases hr:a5y S listed=[]
    ·exact hr
    ·exfalso;obtain⟨i0,hin,hmin⟩:=least _ hr;have hrd:i0∈Region.ready .any ops listed:=by
      refine(hready i0).2 ⟨hin,fun o ho e he hb=>?_⟩;have hi0:=((hmem i0).1 hin).1;have hlt:e.on<i0:=by
       simp only[b5b,List.all_eq_true,List.mem_range]at hE;have:=hE i0 hi0;rw[ho]at this;simp only[List.all_eq_true,Bool.or_eq_true,Bool.not_eq_true']at this;rcases this e he with h2|h2
       ·rw[hb]at h2;cases h2
       ·simpa [Nat.blt_eq]using h2
      have hon:e.on<ops.size:=by omega
      have hno:e.on ∉ a5y S listed:=fun h3=>by have:=hmin _ h3;omega
      rw[hmem]at hno;have h4:listed.getD e.on true=true:=by
       cases hq:listed.getD e.on true with
       | true=>rfl
       | false=>exact absurd ⟨hon,hq⟩ hno
      simp only[Array.getD_eq_getD_getElem?]at h4 ⊢;rw[Array.getElem?_eq_getElem (by omega)]at h4 ⊢;exact h4
     rw[hnil]at hrd;cases hrd
   rw[hr0]at h;exact⟨f1,H1,h,fun _=>⟨rfl,.refl _⟩,.refl _⟩
  | some i =>
   have hir:=(hready i).1 (List.mem_of_getElem? hi);obtain⟨hin,hed⟩:=hir;obtain⟨hisz,hil⟩:=(hmem i).1 hin;obtain⟨A,B,hAB⟩:=List.append_of_mem hin;have ho:ops[i]? = some ops[i]:=by simp[hisz]
   simp only[];rw[linearise_go_acc,List.reverse_singleton,List.singleton_append,List.filterMap_cons,ho];simp only;rw[hAB,List.filterMap_append,List.filterMap_cons,ho]at h;simp only at h;have hpairs:∀j∈A,∀x,ops[j]? = some x->a6T env ops sl x ops[i]=true/\(b39 x=true->a3z ops[i]=true):=by
    intro j hj x hjx;rw[hAB,List.pairwise_append]at hpw;have hp:=(hpw.2.2 j hj i (List.mem_cons_self ..)).1;have hjr:j∈a5y S listed:=by rw[hAB];exact List.mem_append_left _ hj
    obtain⟨hjs,hjl⟩:=(hmem j).1 hjr;unfold c2z at hp;rw[hjx,ho]at hp;simp only[Bool.or_eq_true,Bool.and_eq_true,Bool.not_eq_true']at hp;rcases hp with h2 |⟨h2,h3⟩
    ·exfalso;have h3:=b6G hM hc (i+1) i j (Nat.lt_succ_self i) hisz hjs h2 (fun o e h4 h5 h6=>hed o h4 e h5 h6);rw[b88 h3]at hjl;cases hjl
    ·refine⟨h2,fun hm=>?_⟩;rcases h3 with h3|h3
     ·rw[hm]at h3;cases h3
     ·exact h3
   have hcomm:∀x∈A.filterMap (ops[·]?),a6T env ops sl x ops[i]=true:=by
    intro x hx;rw[List.mem_filterMap]at hx;obtain⟨j,hj,hjx⟩:=hx;exact(hpairs j hj x hjx).1
   have hrest':a5y S (listed.setIfInBounds i true)=A++B:=by
    have hne:(A++i::B).filter (fun k=>k != i)=A++B:=by
     rw[hAB,List.nodup_append]at hnd;obtain⟨h1,h2,h3⟩:=hnd;rw[List.nodup_cons]at h2;rw[List.filter_append,List.filter_cons];simp only[bne_self_eq_false,Bool.false_eq_true,if_false];rw[List.filter_eq_self.2 fun x hx=>by simp;exact fun e=>h3 x hx i (List.mem_cons_self ..) e,List.filter_eq_self.2 fun x hx=>by simp;rintro rfl;exact h2.1 hx]
    rw[<-hne,<-hAB];simp only[a5y,List.filter_filter];refine List.filter_congr fun k hk=>?_;have hk:=hlt k hk;simp only[Array.getD_eq_getD_getElem?];by_cases hki:k=i
    ·subst hki;rw[Array.getElem?_setIfInBounds_self_of_lt (by omega)];simp
    ·rw[Array.getElem?_setIfInBounds_ne (fun e=>hki e.symm)];simp[hki]
   have hc':b6d ops (listed.setIfInBounds i true):=by
    intro k o e hk ho' he hb;have hmono:listed.getD e.on false=true ->(listed.setIfInBounds i true).getD e.on false=true:=by
     intro h9;simp only[Array.getD_eq_getD_getElem?]at h9 ⊢;by_cases hki:i=e.on
     ·subst hki;rw[Array.getElem?_setIfInBounds_self_of_lt (by omega)];rfl
     ·rw[Array.getElem?_setIfInBounds_ne hki];exact h9
    refine hmono ?_;by_cases hki:i=k
    ·subst hki;exact hed o ho' e he hb
    ·refine hc k o e ?_ ho' he hb;simp only[Array.getD_eq_getD_getElem?]at hk ⊢;rw[Array.getElem?_setIfInBounds_ne hki]at hk;exact hk
   have hlen:(a5y S (listed.setIfInBounds i true)).length<=fuel:=by
    rw[hrest'];rw[hAB]at hl;simp only[List.length_append,List.length_cons]at hl ⊢;omega
   have hsub:∀j∈A++B,j∈a5y S listed:=fun j hj=>by
    rw[hAB];rcases List.mem_append.1 hj with hj|hj
    ·exact List.mem_append_left _ hj
    ·exact List.mem_append_right _ (List.mem_cons_of_mem _ hj)
   rcases a4X.1 h with⟨fA,HA,k1,k2⟩ |⟨v,f,K,k1,k2⟩
   ·rcases a0e.1 k2 with⟨vy,Hy,k3,k4⟩ |⟨v,K,k3,k4⟩
    ·obtain⟨K,f',g1,g2,g3⟩:=c5t hcomm k1 k3;obtain⟨f2,g4,g5⟩:=a9n g3 k4;have g6:J7 env orc L sl ops ((a5y S (listed.setIfInBounds i true)).filterMap (ops[·]?)) (V9 ops[i].dst vy fr) K=some (ex,f2,H1):=by
      rw[hrest',List.filterMap_append];exact a4X.2 (.inl ⟨_,_,g2,g4⟩)
     obtain⟨f3,H3,q1,q2,q3⟩:=b6q hE hM hall hlt hP hal fuel (t/(Region.ready .any ops listed).length) _ _ _ _ _ _ (by simp[hsz]) hc' hlen g6 (fun v hv j hj o hjo hja=>by
      rw[hrest']at hj;exact hab v hv j (hsub j hj) o hjo hja)
     exact⟨f3,H3,a0e.2 (.inl ⟨_,_,g1,q1⟩),fun he=>⟨(q2 he).1,g5.trans (q2 he).2⟩,q3⟩
    ·simp only[Prod.mk.injEq]at k4;obtain⟨rfl,rfl,rfl⟩:=k4;have hm:=c0F k3;simp only[b39,Bool.and_eq_true,Bool.not_eq_true']at hm;have g1:=c5u hm.1.1 hm.2 hcomm k1 k3;exact⟨fr,H1,a0e.2 (.inr ⟨v,H1,g1,rfl⟩),(fun he=>by cases he),.refl _⟩
   ·simp only[Prod.mk.injEq]at k2;obtain⟨rfl,rfl,rfl⟩:=k2;obtain⟨x,hx,hxm⟩:=c6d k1;rw[List.mem_filterMap]at hx;obtain⟨j,hj,hjx⟩:=hx;have hay:=(hpairs j hj x hjx).2 hxm;have hk1:=hab v rfl i hin _ ho hay;have key:=fun(z:Obj) (u:V)=>b8P (z:=z) (u:=u) hay hcomm k1 hk1;obtain⟨q1,q2,_⟩:=key .gone .undef;obtain⟨u,z,g1⟩:=opVP_al (orc:=orc) (L:=L) (sl:=sl) (ops:=ops) (fr:=fr) hay (hal _ (by simp)) q1 q2;obtain⟨_,_,f2,g2⟩:=key z u;have g6:J7 env orc L sl ops ((a5y S (listed.setIfInBounds i true)).filterMap (ops[·]?)) (V9 ops[i].dst u fr) (hset (newName ops[i]) z H)=some (.panic v,f2,hset (newName ops[i]) z H1):=by
     rw[hrest',List.filterMap_append];exact a4X.2 (.inr ⟨_,_,_,g2,rfl⟩)
    obtain⟨f3,H3,p1,p2,p3⟩:=b6q hE hM hall hlt hP hal fuel (t/(Region.ready .any ops listed).length) _ _ _ _ _ _ (by simp[hsz]) hc' hlen g6 (fun v' hv j hj o hjo hja=>by
     rw[hrest']at hj;rw[D6,if_neg]
     ·exact hab v' hv j (hsub j hj) o hjo hja
     ·rw[hAB,List.pairwise_append,List.pairwise_cons]at hpw;rcases List.mem_append.1 hj with hj|hj
      ·have:=(hpw.2.2 j hj i (List.mem_cons_self ..)).2.1;unfold b48 at this;rw[hjo,ho]at this;simp only[hja,hay,Bool.and_self,Bool.not_true,Bool.false_or,Bool.not_eq_true']at this;intro he;rw[he]at this;simp at this
      ·have:=(hpw.2.1.1 j hj).2.1;unfold b48 at this;rw[hjo,ho]at this;simp only[hja,hay,Bool.and_self,Bool.not_true,Bool.false_or,Bool.not_eq_true']at this;intro he;rw[he]at this;simp at this)
    exact⟨f3,H3,a0e.2 (.inl ⟨_,_,g1,p1⟩),(fun he=>by cases he),(b4Z hk1).trans p3⟩
theorem b9n:∀(n:Nat) (S:List Nat),S.Nodup ->(∀j∈S,j<n)->S.length<=n
 | 0,[],_,_=>Nat.le_refl _
 | 0,a::_,_,h=>by have:=h a (List.mem_cons_self ..);omega
 | n+1,S,hn,h=>by
  have h1:=b9n n (S.erase n) (hn.erase n) (fun j hj=>by
   have hne:j≠n:=by rintro rfl;exact hn.not_mem_erase hj
   have:=h j (List.mem_of_mem_erase hj);omega)
  rw[List.length_erase]at h1;split at h1<;>omega
theorem b3s:∀(S:List Nat),a7R ops S=S.filterMap (ops[·]?)
 | []=>rfl
 | i::r=>by
  simp only[a7R,List.filterMap_cons];cases ops[i]? with
  | none=>exact b3s r
  | some o=>simp only[b3s r]
theorem a8A:∀{l:List Oper} {o:Oper},o∈l->a3z o=true->newName o∈a5I l
 | [],o,h,_=>by cases h
 | a::r,o,h,ha=>by
  simp only[a5I];rcases List.mem_cons.1 h with rfl|h
  ·rw[ha];exact List.mem_cons_self ..
  ·cases a3z a with
   | true=>exact List.mem_cons_of_mem _ (a8A h ha)
   | false=>exact a8A h ha
theorem c0m {nr:Nat}{S:List Nat}{r:Res}(h:a5E env orc nr ops S sl fr H=some r):∃L,(∃f2 H2,J7 env orc L sl ops (a7R ops S) fr H=some (.normal,f2,H2)/\r =(.normal,f2,H2)) ∨
  ∃v f2 H2 v' H',J7 env orc L sl ops (a7R ops S) fr H=some (.panic v,f2,H2)/\b9Y (a5I ops.toList) H2=true/\finish nr v H2=some (v',H')/\r =(.panic v',[],H'):=by
 unfold a5E at h;split at h
 ·cases h
 ·split at h
  ·cases h
  ·rename_i L _;refine⟨L,?_⟩;split at h
   ·rename_i f2 H2 ho;cases h;exact .inl ⟨f2,H2,ho,rfl⟩
   ·rename_i v f2 H2 ho;split at h
    ·rename_i v' H' ha hf;cases h;exact .inr ⟨v,f2,H2,v',H',ho,ha,hf,rfl⟩
    ·cases h
   ·cases h
end
variable {f nt:Nat}
section
variable {P:Program} {T:List (Nat×Ty)} {ρ ρ':Rho} {lab:Lab} {w:World} {H:Hp} {fr:Fr} {a:Act} {n nr:Nat} {env:Env} {orc:Orc} {ops:Array Oper}
def rest (ops:Array Oper)(listed:Array Bool):List Nat:=(List.range ops.size).filter fun i=>!listed.getD i true
def Closed (ops:Array Oper)(listed:Array Bool):Prop:=∀(i:Nat) (o:Oper) (e:Edge),listed.getD i true=true->ops[i]? = some o->e∈o.after.toList->Region.binds .any e=true->listed.getD e.on false=true
theorem b4P {listed:Array Bool}(hsz:listed.size=ops.size)(hc:Closed ops listed):∀(d i j:Nat),c0X ops d i j=true ->
  (∀(o:Oper) (e:Edge),ops[i]? = some o->e∈o.after.toList->Region.binds .any e=true->listed.getD e.on false=true)->listed.getD j false=true
 | 0,_,_,h,_=>by cases h
 | d+1,i,j,h,hi=>by
  simp only[c0X]at h;cases ho:ops[i]? with
  | none=>rw[ho]at h;cases h
  | some o =>
   rw[ho]at h;simp only[List.any_eq_true,Bool.and_eq_true,Bool.or_eq_true]at h;obtain⟨e,he,hb,h⟩:=h;have hl:=hi o e ho he hb;rcases h with h|h
   ·rw[Nat.eq_of_beq_eq_true h]at hl;exact hl
   ·refine b4P hsz hc d e.on j h (fun o' e' ho' he' hb'=>hc e.on o' e' ?_ ho' he' hb');simp only[Array.getD_eq_getD_getElem?]at hl ⊢;cases hq:listed[e.on]? with
    | none=>rfl
    | some b=>rw[hq]at hl;exact hl
theorem c6Y {A B:List Nat}{i:Nat}(hn:(A++i::B).Nodup):(A++i::B).filter (fun k=>k != i)=A++B:=by
 rw[List.nodup_append]at hn;obtain⟨h1,h2,h3⟩:=hn;rw[List.nodup_cons]at h2;rw[List.filter_append,List.filter_cons];simp only[bne_self_eq_false,Bool.false_eq_true,if_false];rw[List.filter_eq_self.2 fun x hx=>by simp;exact fun e=>h3 x hx i (List.mem_cons_self ..) e,List.filter_eq_self.2 fun x hx=>by simp;rintro rfl;exact h2.1 hx]
theorem lin_ok {b:Bool}(hE:b5b ops=true)(hP:c4z env ops b=true):∀(fuel t:Nat) (listed:Array Bool) (fr:Fr) (H:Hp) (f1:Fr) (H1:Hp),listed.size=ops.size->Closed ops listed ->(rest ops listed).length<=fuel ->
  (b=true->a4B f1 ((rest ops listed).filterMap (ops[·]?))) ->
  J5 env orc ops ((rest ops listed).filterMap (ops[·]?)) fr H=some (.normal,f1,H1) ->
  ∃f2,J5 env orc ops ((Region.linearise.go .any ops fuel t listed []).filterMap (ops[·]?)) fr H=some (.normal,f2,H1)/\a9e f1 f2
 | 0,t,listed,fr,H,f1,H1,hsz,hc,hl,hC,h=>by
  have:rest ops listed=[]:=by simpa using hl
  rw[this]at h;simp only[Region.linearise.go,List.reverse_nil];exact⟨f1,h,.refl _⟩
 | fuel+1,t,listed,fr,H,f1,H1,hsz,hc,hl,hC,h=>by
  have hnd:(rest ops listed).Nodup:=List.Nodup.sublist List.filter_sublist List.nodup_range;have hpw:(rest ops listed).Pairwise (· < ·):=List.Pairwise.sublist List.filter_sublist List.pairwise_lt_range;have hmem:∀j,j∈rest ops listed↔j<ops.size/\listed.getD j true=false:=fun j=>by
   simp only[rest,List.mem_filter,List.mem_range,Bool.not_eq_true']
  have hready:∀j,j∈Region.ready .any ops listed↔j∈rest ops listed /\ ∀o,ops[j]? = some o -> ∀e∈o.after.toList,Region.binds .any e=true->listed.getD e.on false=true:=by
   intro j;rw[hmem];simp only[Region.ready,List.mem_filter,List.mem_range,Bool.and_eq_true,Bool.not_eq_true',and_assoc];refine and_congr_right fun hj=>and_congr_right fun _=>?_;have ho:ops[j]? = some ops[j]:=by simp[hj]
   rw[ho];simp only[Option.map_some,Option.getD_some,Array.all_eq_true_iff_forall_mem,Bool.or_eq_true,Bool.not_eq_true',Option.some.injEq];constructor
   ·rintro h1 o rfl e he hb;rcases h1 e (by simpa using he)with h2|h2
    ·rw[hb]at h2;cases h2
    ·exact h2
   ·intro h1 e he;cases hb:Region.binds .any e with
    | false=>exact .inl rfl
    | true=>exact .inr (h1 _ rfl e (by simpa using he) hb)
  simp only[Region.linearise.go];change ∃f2,J5 env orc ops ((match (Region.ready .any ops listed)[t%(Region.ready .any ops listed).length]? with
   | some i=>Region.linearise.go .any ops fuel (t/(Region.ready .any ops listed).length) (listed.setIfInBounds i true) [i]
   | none=>[].reverse).filterMap (ops[·]?)) fr H=some (.normal,f2,H1)/\a9e f1 f2
  cases hi:(Region.ready .any ops listed)[t%(Region.ready .any ops listed).length]? with
  | none =>
   have hnil:Region.ready .any ops listed=[]:=by
    cases hr:Region.ready .any ops listed with
    | nil=>rfl
    | cons x xs =>
     rw[hr]at hi;have hlt:t%(x::xs).length<(x::xs).length:=Nat.mod_lt _ (by simp);simp at hi;simp at hlt;omega
   have hr0:rest ops listed=[]:=by
    cases hr:rest ops listed with
    | nil=>rfl
    | cons i0 xs =>
     have hin:i0∈rest ops listed:=by rw[hr];exact List.mem_cons_self ..
     have hrd:i0∈Region.ready .any ops listed:=by
      refine(hready i0).2 ⟨hin,fun o ho e he hb=>?_⟩;have hi0:=((hmem i0).1 hin).1;have hlt:e.on<i0:=by
       simp only[b5b,List.all_eq_true,List.mem_range]at hE;have:=hE i0 hi0;rw[ho]at this;simp only[List.all_eq_true,Bool.or_eq_true,Bool.not_eq_true']at this;rcases this e he with h2|h2
       ·rw[hb]at h2;cases h2
       ·simpa [Nat.blt_eq]using h2
      have hon:e.on<ops.size:=by omega
      have hno:e.on ∉ rest ops listed:=by
       rw[hr]at hpw ⊢;rw[List.pairwise_cons]at hpw;simp only[List.mem_cons,not_or];exact⟨by omega,fun h3=>by have:=hpw.1 _ h3;omega⟩
      rw[hmem]at hno;have h4:listed.getD e.on true=true:=by
       cases hq:listed.getD e.on true with
       | true=>rfl
       | false=>exact absurd ⟨hon,hq⟩ hno
      simp only[Array.getD_eq_getD_getElem?]at h4 ⊢;rw[Array.getElem?_eq_getElem (by omega)]at h4 ⊢;exact h4
     rw[hnil]at hrd;cases hrd
   rw[hr0]at h;exact⟨f1,h,.refl _⟩
  | some i =>
   have hir:=(hready i).1 (List.mem_of_getElem? hi);obtain⟨hin,hed⟩:=hir;obtain⟨hisz,hil⟩:=(hmem i).1 hin;obtain⟨A,B,hAB⟩:=List.append_of_mem hin;have ho:ops[i]? = some ops[i]:=by simp[hisz]
   simp only[];rw[linearise_go_acc,List.reverse_singleton,List.singleton_append,List.filterMap_cons,ho];simp only;rw[hAB,List.filterMap_append,List.filterMap_cons,ho]at h hC;simp only at h hC;have hcomm:∀x∈A.filterMap (ops[·]?),b8W env ops b x ops[i]=true:=by
    intro x hx;rw[List.mem_filterMap]at hx;obtain⟨j,hj,hjx⟩:=hx;have hlt:j<i:=by
     rw[hAB,List.pairwise_append]at hpw;exact hpw.2.2 j hj i (List.mem_cons_self ..)
    have hjr:j∈rest ops listed:=by rw[hAB];exact List.mem_append_left _ hj
    have hjl:=((hmem j).1 hjr).2;simp only[c4z,List.all_eq_true,List.mem_range]at hP;have:=hP i hisz j hlt;rw[hjx,ho]at this;simp only[Bool.or_eq_true]at this;rcases this with h2|h2
    ·exact h2
    ·have h3:=b4P hsz hc 8 i j h2 (fun o e h4 h5 h6=>hed o h4 e h5 h6);simp only[Array.getD_eq_getD_getElem?]at h3 hjl;have hjs:j<listed.size:=by omega
     rw[Array.getElem?_eq_getElem hjs]at h3 hjl;simp at h3 hjl;rw[h3]at hjl;cases hjl
   obtain⟨f2,h5,h6⟩:=b8Q hcomm hC h;obtain⟨v,H',h7,h8⟩:=a0Q.1 h5;have hrest':rest ops (listed.setIfInBounds i true)=A++B:=by
    rw[<-c6Y (A:=A) (B:=B) (i:=i) (by rw[<-hAB];exact hnd),<-hAB];simp only[rest,List.filter_filter];refine List.filter_congr fun k hk=>?_;rw[List.mem_range]at hk;simp only[Array.getD_eq_getD_getElem?];by_cases hki:k=i
    ·subst hki;rw[Array.getElem?_setIfInBounds_self_of_lt (by omega)];simp
    ·rw[Array.getElem?_setIfInBounds_ne (fun e=>hki e.symm)];simp[hki]
   rw[<-List.filterMap_append,<-hrest']at h8;have hc':Closed ops (listed.setIfInBounds i true):=by
    intro k o e hk ho' he hb;have hmono:listed.getD e.on false=true ->(listed.setIfInBounds i true).getD e.on false=true:=by
     intro h9;simp only[Array.getD_eq_getD_getElem?]at h9 ⊢;by_cases hki:i=e.on
     ·subst hki;rw[Array.getElem?_setIfInBounds_self_of_lt (by omega)];rfl
     ·rw[Array.getElem?_setIfInBounds_ne hki];exact h9
    refine hmono ?_;by_cases hki:i=k
    ·subst hki;exact hed o ho' e he hb
    ·refine hc k o e ?_ ho' he hb;simp only[Array.getD_eq_getD_getElem?]at hk ⊢;rw[Array.getElem?_setIfInBounds_ne hki]at hk;exact hk
   have hlen:(rest ops (listed.setIfInBounds i true)).length<=fuel:=by
    rw[hrest'];rw[hAB]at hl;simp only[List.length_append,List.length_cons]at hl ⊢;omega
   obtain⟨f3,h9,h10⟩:=lin_ok hE hP fuel (t/(Region.ready .any ops listed).length) _ _ _ _ _ (by simp[hsz]) hc' hlen (fun hb=>by
    rw[hrest',List.filterMap_append];refine((hC hb).congr h6).sub ?_;exact List.Sublist.append_left (List.sublist_cons_self _ _) _) h8
   exact⟨f3,a0Q.2 ⟨v,H',h7,h9⟩,h6.trans h10⟩
theorem a95 {α:Type}:∀(l:List α) (g:Nat->Option α) (k:Nat),(∀j,g (k+j)=l[j]?) ->(List.range' k l.length).filterMap g=l
 | [],g,k,_=>rfl
 | x::l,g,k,h=>by
  have h0:g k=some x:=by simpa using h 0
  rw[List.length_cons,List.range'_succ,List.filterMap_cons,h0];simp only;rw[a95 l g (k+1) (fun j=>by have:=h (j+1);simpa [Nat.add_assoc,Nat.add_comm 1 j]using this)]
theorem a9G (ops:Array Oper):(List.range ops.size).filterMap (ops[·]?)=ops.toList:=by
 rw[List.range_eq_range',<-Array.length_toList];exact a95 ops.toList _ 0 (fun j=>by simp)
theorem b34:∀{l:List Oper} {fr:Fr} {H:Hp} {r:Res},J5 env orc ops l fr H=some r->r.1=.normal ∨ ∃v,r.1=.panic v
 | [],fr,H,r,h=>by simp only[J5]at h;cases h;exact .inl rfl
 | o::l,fr,H,r,h=>by
  simp only[J5]at h;split at h
  ·cases h
  ·exact b34 h
  ·split at h
   ·cases h
   ·exact b34 h
   ·cases h;exact .inr ⟨_,rfl⟩
theorem b8v {b:Bool}{r:Option Res}{x:Res}(h:a7y b ops r=some x):r=some x/\(b=true -> ∃fr H,x =(.normal,fr,H)/\((a3e ops.toList).all fun t=>a8M (look t fr))=true):=by
 cases b with
 | false=>exact⟨h,fun hb=>by cases hb⟩
 | true =>
  simp only[a7y]at h;split at h
  ·rename_i f1 H1;cases hc:(a3e ops.toList).all fun t=>a8M (look t f1)with
   | false=>rw[hc]at h;cases h
   | true=>rw[hc]at h;simp only[gd,Option.some.injEq]at h;subst h;exact⟨rfl,fun _=>⟨_,_,rfl,hc⟩⟩
  ·cases h
def a6S (env:Env)(f nt:Nat):Code->Bool
 | .region id ops d=>(ops.toList.all fun o=>match o.dst with|some d=>Nat.blt d nt|none=>true)&&(match b3S env f id d with
  | some (S,sl)=>sepB env ops S sl (env.mask f id)
  | none=>!d||drawB env ops (env.loose f))
 | .seq a b=>a6S env f nt a&&a6S env f nt b
 | .cond _ a b=>a6S env f nt a&&a6S env f nt b
 | .block _ a=>a6S env f nt a
 | .loop a=>a6S env f nt a
 | _=>true
def b9X (env:Env)(k:Nat)(orc:Orc):Prop:=∀f nr body fr H r,orc (.loop f nr body fr) H=some (.res r) -> ∀ρ lab w a n nt,a6S env f nt body=true->nt<=n->Sim ρ lab H w->FOk ρ lab w fr a n ->
 Code.rounds env.P body (Post nr n ρ lab w r) k a w
theorem Post.frEq {f1 f2:Fr}{ex:Ex}{e:Exit}{w':World}(h:a9e f1 f2)(hp:Post nr n ρ lab w (ex,f2,H) e a w'):Post nr n ρ lab w (ex,f1,H) e a w':=by
 obtain⟨ρ',lab',h1,h2,h3,h4,h5⟩:=hp;refine⟨ρ',lab',h1,h2,h3,h4,?_⟩;have key:FOk ρ' lab' w' f2 a n->FOk ρ' lab' w' f1 a n:=fun hf=>⟨fun t=>by rw[h t];exact hf.rel t,hf.size,hf.defers⟩
 cases ex<;>cases e<;>first|exact h5.elim|exact key h5|exact⟨h5.1,key h5.2⟩|exact h5
theorem c7C (hM:a8z env)(hT:TOk env.P env.T)(hm:env.P.follows .mixedOrders=true)(hO:a9D env.P orc){id:Nat}{d:Bool}{r:Res}(hB:a6S env f nt (.region id ops d)=true)(hn:nt<=n)
  (h:E8 env orc f nr (.region id ops d) fr H=some r) (hS:Sim ρ lab H w) (hF:FOk ρ lab w fr a n) {Q:Exit->Act->World->Prop} (hQ:∀e a' w',Post nr n ρ lab w r e a' w'->Q e a' w') :
  (Code.region id ops d).wp env.P Q a w:=by
 simp only[a6S,Bool.and_eq_true]at hB;obtain⟨hB1,hB2⟩:=hB;have hdst:∀(i:Nat) (o:Oper) (dd:Nat),ops[i]? = some o->o.dst=some dd->dd<n:=by
  intro i o dd ho hd;rw[List.all_eq_true]at hB1;have:=hB1 o (by rw[<-Array.getElem?_toList]at ho;exact List.mem_of_getElem? ho);rw[hd]at this;simp only[Nat.blt_eq]at this;omega
 simp only[E8]at h;cases hso:b3S env f id d with
 | some Ssl =>
  obtain⟨S,sl⟩:=Ssl;rw[hso]at h hB2;simp only at h hB2;have hd:d=true:=by
   cases d with
   | true=>rfl
   | false=>cases hso
  subst hd;simp only[sepB,Bool.and_eq_true]at hB2;obtain⟨⟨⟨⟨⟨b1,b2⟩,b3⟩,b4⟩,b5⟩,b6⟩:=hB2;rw[List.all_eq_true]at b4 b5 b6;have hall:∀j,j<ops.size->j∈S:=fun j hj=>a9p.1 (b4 j (List.mem_range.2 hj));have hlt:∀j,j∈S->j<ops.size:=fun j hj=>by simpa [Nat.blt_eq]using b5 j hj
  refine wp_region_draw fun t=>?_;simp only[Region.schedule,hm,Bool.true_or,if_true];have hr:a5y S (Array.replicate ops.size false)=S:=by
   refine List.filter_eq_self.2 fun i hi=>?_;have:=hlt i hi;simp[this]
  have hcl:b6d ops (Array.replicate ops.size false):=fun i o e hi ho=>by
   rcases Nat.lt_or_ge i ops.size with hlt|hge
   ·simp[hlt]at hi
   ·rw[Array.getElem?_eq_none hge]at ho;cases ho
  have hlen:(a5y S (Array.replicate ops.size false)).length<=ops.size:=by
   rw[hr];have hnd:S.Nodup:=(a9v b3).imp fun h=>h.2.2;exact b9n _ _ hnd hlt
  have g:a01 w {w with drawn:=w.drawn+1}:=⟨Nat.le_refl _,rfl,rfl,rfl,fun _ _=>rfl⟩
  have E:=g.ext lab;obtain⟨L,⟨f1,H1,k1,rfl⟩ |⟨v,f1,H1,v',H',k1,k2,k3,rfl⟩⟩:=c0m h
  ·rw[b3s,<-hr]at k1;obtain⟨f2,H2,k4,k5,_⟩:=b6q b1 b2 hall hlt (a9v b3) b6 ops.size t (Array.replicate ops.size false) fr H _ _ _ (by simp) hcl hlen k1 (fun v hv=>by cases hv);obtain⟨rfl,k6⟩:=k5 rfl;exact b0U hM hT hO hdst _ ρ lab _ H fr a _ (a7t k4) (hS.grew g) (hF.ext E (.refl _)) (fun e a' w' hp=>hQ e a' w' ((hp.trans E (a2q.of_le (.refl _) _)).frEq k6))
  ·rw[b3s,<-hr]at k1;obtain⟨f2,H2,k4,_,k6⟩:=b6q b1 b2 hall hlt (a9v b3) b6 ops.size t (Array.replicate ops.size false) fr H _ _ _ (by simp) hcl hlen k1 (fun v' hv i hi o ho ha=>by
    have:=List.all_eq_true.1 k2 (newName o) (a8A (by rw[<-Array.getElem?_toList]at ho;exact List.mem_of_getElem? ho) ha);cases hq:hget (newName o) H1 with
    | none=>rfl
    | some z=>rw[hq]at this;cases this)
   have k7:=c35 k6 k3;refine b0U (nr:=nr) hM hT hO hdst _ ρ lab _ H fr a _ (a7t k4) (hS.grew g) (hF.ext E (.refl _)) (fun e a' w' hp=>hQ e a' w' ?_);have hp:=hp.trans E (a2q.of_le (.refl _) _);obtain⟨ρ1,a3R,q1,q2,q3,q4,q5⟩:=hp;cases e with
   | panic ch =>
    obtain⟨x,q6,q7⟩:=q5;obtain⟨ρ2,lab2,r1,r2,r3,r4,_⟩:=b85 q1 q7 k7;exact⟨ρ2,lab2,r1,q2.trans r2,q3.trans r3 (Nat.le_refl _),q4,x,q6,r4⟩
   | _=>exact q5.elim
 | none =>
 rw[hso]at h hB2;simp only at h hB2;cases d with
 | false =>
  refine wp_region ?_;have h':J5 env orc ops ops.toList fr H=some r:=by
   simp only[Bool.false_and,a7y]at h;split at h
   ·rename_i hq;rw[hq];exact h
   ·exact h
  rw[<-a9G ops]at h';exact b0U hM hT hO hdst _ ρ lab w H fr a r h' hS hF hQ
 | true =>
  simp only[Bool.not_true,Bool.false_or,drawB,Bool.and_eq_true]at hB2;simp only[Bool.true_and]at h;obtain⟨h,hchk⟩:=b8v h;refine wp_region_draw fun t=>?_;simp only[Region.schedule,hm,Bool.true_or,if_true];split at h
  ·cases h
  ·rename_i hno;obtain⟨ex,f1,H1⟩:=r;rcases b34 h with h1 |⟨v,h1⟩
   ·simp only at h1;subst h1;have hr:rest ops (Array.replicate ops.size false)=List.range ops.size:=by
     refine List.filter_eq_self.2 fun i hi=>?_;rw[List.mem_range]at hi;simp[hi]
    rw[<-a9G ops,<-hr]at h;obtain⟨f2,h2,h3⟩:=lin_ok hB2.1.1 hB2.1.2 ops.size t (Array.replicate ops.size false) fr H f1 H1 (by simp) (fun i o e hi ho=>by
     rcases Nat.lt_or_ge i ops.size with hlt|hge
     ·simp[hlt]at hi
     ·rw[Array.getElem?_eq_none hge]at ho;cases ho) (by rw[hr];simp) (fun hb=>by
     rw[hr,a9G];obtain⟨f',H',hx,hy⟩:=hchk hb;cases hx;have hs:=hB2.2;rw[hb]at hs;exact c6r (by simpa using hs) hy) h
    have g:a01 w {w with drawn:=w.drawn+1}:=⟨Nat.le_refl _,rfl,rfl,rfl,fun _ _=>rfl⟩
    have E:=g.ext lab;refine b0U hM hT hO hdst _ ρ lab _ H fr a _ h2 (hS.grew g) (hF.ext E (.refl _)) (fun e a' w' hp=>hQ e a' w' ((hp.trans E (a2q.of_le (.refl _) _)).frEq h3))
   ·simp only at h1;subst h1;exact absurd h (hno v f1 H1)
theorem b2U {c:Code}{Q Q':Exit->Act->World->Prop}(hq:∀e a w,Q e a w->Q' e a w):∀(k:Nat) (a:Act) (w:World),Code.rounds P c Q k a w->Code.rounds P c Q' k a w
 | 0,_,_,h=>h
 | k+1,a,w,h=>by
  rw[rounds_succ]at h ⊢;refine wp_mono h fun e a' w' he=>?_;cases e<;>first|exact b2U hq k a' w' he|exact hq _ _ _ he
theorem c5y (hM:a8z env)(hT:TOk env.P env.T)(hm:env.P.follows .mixedOrders=true)(hO:a9D env.P orc){k:Nat}(hL:b9X env k orc):∀(c:Code) (ρ:Rho) (lab:Lab) (w:World) (H:Hp) (fr:Fr) (a:Act) (r:Res) (n:Nat),
  a6S env f nt c=true->nt<=n->E8 env orc f nr c fr H=some r->Sim ρ lab H w->FOk ρ lab w fr a n -> ∀Q:Exit->Act->World->Prop,(∀e a' w',Post nr n ρ lab w r e a' w'->Q e a' w')->c.wp env.P Q a w:=by
 intro c;induction c with
 | skip =>
  intro ρ lab w H fr a r n hB hn h hS hF Q hQ;simp only[E8]at h;cases h;exact wp_skip (hQ _ _ _ ⟨ρ,lab,hS,.refl _ _,a2q.of_le (.refl _) _,hF.defers,hF⟩)
 | label l =>
  intro ρ lab w H fr a r n hB hn h hS hF Q hQ;simp only[E8]at h;cases h;exact wp_label (hQ _ _ _ ⟨ρ,lab,hS,.refl _ _,a2q.of_le (.refl _) _,hF.defers,hF⟩)
 | exit i =>
  intro ρ lab w H fr a r n hB hn h hS hF Q hQ;simp only[E8]at h;cases h;exact wp_exit (hQ _ _ _ ⟨ρ,lab,hS,.refl _ _,a2q.of_le (.refl _) _,hF.defers,rfl,hF⟩)
 | ret =>
  intro ρ lab w H fr a r n hB hn h hS hF Q hQ;simp only[E8]at h;cases h;exact wp_ret (hQ _ _ _ ⟨ρ,lab,hS,.refl _ _,a2q.of_le (.refl _) _,hF.defers,hF⟩)
 | region id ops d =>
  intro ρ lab w H fr a r n hB hn h hS hF Q hQ;exact c7C hM hT hm hO hB hn h hS hF hQ
 | seq x y ihx ihy =>
  intro ρ lab w H fr a r n hB hn h hS hF Q hQ;simp only[a6S,Bool.and_eq_true]at hB;simp only[E8]at h;refine wp_seq ?_;cases hx:E8 env orc f nr x fr H with
  | none=>rw[hx]at h;cases h
  | some r1 =>
   rw[hx]at h;refine ihx ρ lab w H fr a r1 n hB.1 hn hx hS hF _ fun e a1 w1 hp=>?_;obtain⟨ex,fr1,H1⟩:=r1;obtain⟨ρ1,a3R,h1,h2,h3,h4,h5⟩:=hp;cases ex with
   | normal =>
    simp only at h h5;cases e with
    | normal =>
     unfold cutAt at h;cases hcu:env.cut f (a3b y)with
     | false =>
      rw[hcu]at h;exact ihy ρ1 a3R w1 H1 fr1 a1 r n hB.2 hn h h1 h5 Q fun e a' w' hp=>hQ e a' w' (hp.trans h2 h3)
     | true =>
      rw[hcu]at h;simp only at h;split at h
      ·rename_i fr2 H2 hnm;obtain⟨ρ2,lab2,k1,k2,k3,k4⟩:=b5k h1 h5.rel hnm;exact ihy ρ2 lab2 w1 H2 fr2 a1 r n hB.2 hn h k1 ⟨k4,h5.size,h5.defers⟩ Q fun e a' w' hp=>hQ e a' w' ((hp.trans k2 k3).trans h2 h3)
      ·cases h
    | _=>exact h5.elim
   | ret =>
    simp only[Option.some.injEq]at h h5;subst h;cases e with
    | ret=>exact hQ _ _ _ ⟨ρ1,a3R,h1,h2,h3,h4,h5⟩
    | _=>exact h5.elim
   | exit i =>
    simp only[Option.some.injEq]at h h5;subst h;cases e with
    | exit j=>exact hQ _ _ _ ⟨ρ1,a3R,h1,h2,h3,h4,h5⟩
    | _=>exact h5.elim
   | panic v =>
    simp only[Option.some.injEq]at h h5;subst h;cases e with
    | panic ch=>exact hQ _ _ _ ⟨ρ1,a3R,h1,h2,h3,h4,h5⟩
    | _=>exact h5.elim
 | cond c x y ihx ihy =>
  intro ρ lab w H fr a r n hB hn h hS hF Q hQ;simp only[a6S,Bool.and_eq_true]at hB;simp only[E8]at h;split at h
  ·rename_i t hc;have hb:=Y7 hF.rel hc;generalize hcv:a.eval c=cv at hb;cases hb;split at h
   ·exact wp_cond_true hcv (ihx ρ lab w H fr a r n hB.1 hn h hS hF Q hQ)
   ·exact wp_cond_false hcv (ihy ρ lab w H fr a r n hB.2 hn h hS hF Q hQ)
  ·cases h
 | block id x ihx =>
  intro ρ lab w H fr a r n hB hn h hS hF Q hQ;simp only[a6S]at hB;simp only[E8]at h;refine wp_block ?_;cases hx:E8 env orc f nr x fr H with
  | none=>rw[hx]at h;cases h
  | some r1 =>
   rw[hx]at h;refine ihx ρ lab w H fr a r1 n hB hn hx hS hF _ fun e a1 w1 hp=>?_;obtain⟨ex,fr1,H1⟩:=r1;obtain⟨ρ1,a3R,h1,h2,h3,h4,h5⟩:=hp;cases ex with
   | normal =>
    simp only[Option.some.injEq]at h h5;subst h;cases e with
    | normal=>exact hQ _ _ _ ⟨ρ1,a3R,h1,h2,h3,h4,h5⟩
    | _=>exact h5.elim
   | ret =>
    simp only[Option.some.injEq]at h h5;subst h;cases e with
    | ret=>exact hQ _ _ _ ⟨ρ1,a3R,h1,h2,h3,h4,h5⟩
    | _=>exact h5.elim
   | exit i =>
    simp only at h h5;cases e with
    | exit j =>
     obtain⟨rfl,h5⟩:=h5;simp only[Exit.inBlock];cases hb:Nat.beq i id with
     | true =>
      rw[hb]at h;simp only[Option.some.injEq]at h;subst h;rw[if_pos (Nat.eq_of_beq_eq_true hb)];exact hQ _ _ _ ⟨ρ1,a3R,h1,h2,h3,h4,h5⟩
     | false =>
      rw[hb]at h;simp only[Option.some.injEq]at h;subst h;rw[if_neg (by rintro rfl;simp at hb)];exact hQ _ _ _ ⟨ρ1,a3R,h1,h2,h3,h4,rfl,h5⟩
    | _=>exact h5.elim
   | panic v =>
    simp only[Option.some.injEq]at h h5;subst h;cases e with
    | panic ch=>exact hQ _ _ _ ⟨ρ1,a3R,h1,h2,h3,h4,h5⟩
    | _=>exact h5.elim
 | loop x ihx =>
  intro ρ lab w H fr a r n hB hn h hS hF Q hQ;simp only[a6S]at hB;simp only[E8]at h;split at h
  ·rename_i fr1 H1 hnm;split at h
   ·rename_i r1 ho;cases h;obtain⟨ρ1,a3R,k1,k2,k3,k4⟩:=b5k hS hF.rel hnm;have:=hL f nr x fr1 H1 _ ho ρ1 a3R w a n nt hB hn k1 ⟨k4,hF.size,hF.defers⟩;exact wp_loop_rounds k (b2U (fun e a' w' hp=>hQ e a' w' (hp.trans k2 k3)) k a w this)
   ·cases h
  ·cases h
 | _ =>
  intro ρ lab w H fr a r n hB hn h hS hF Q hQ;simp only[E8]at h;cases h
end
variable {tmps:Array Value} {args:List V} {g k:Nat} {out:Out} {v:V}
section
variable {P:Program} {T:List (Nat×Ty)} {ρ ρ':Rho} {lab:Lab} {w:World} {H:Hp} {fr:Fr} {a:Act} {n nr:Nat} {env:Env} {orc:Orc}
def b7V (tmps:Array Value):ResultVar->Sem Value | .tmp t=>pure (tmps.getD t undef) | .cell a t=>do loadVar t (<-asAddr (tmps.getD a undef))
theorem resV_ok (hT:TOk P T)(hS:Sim ρ lab H w)(hF:a3N ρ lab w fr tmps){rv:ResultVar}(h:b6b T fr H rv=some v):∃z,(b7V tmps rv).run P w=.ok z w/\Rel ρ lab w v z:=by
 cases rv with
 | tmp t=>simp only[b6b]at h;cases h;exact⟨_,rfl,hF t⟩
 | cell c t =>
  simp only[b6b]at h;have hx:=hF c;obtain⟨z,h1,h2⟩:=c2q hT hS hx h;refine⟨z,?_,h2⟩;simp only[b7V];generalize hcv:tmps.getD c undef=cv at hx h1;unfold a4c at h;split at h
  ·rename_i hl;rw[hl]at hx;cases hx;exact h1
  ·rename_i hl;rw[hl]at hx;cases hx;exact h1
  ·cases h
theorem mapM_ok (hT:TOk P T)(hS:Sim ρ lab H w){tmps:Array Value}(hF:a3N ρ lab w fr tmps):∀{l:List ResultVar} {vs:List V},a1m (b6b T fr H) l=some vs -> ∃xs,(l.mapM (b7V tmps)).run P w=.ok xs w/\J2 ρ lab w vs xs
 | [],vs,h=>by simp only[a1m]at h;cases h;exact⟨[],rfl,b7U⟩
 | r::l,vs,h=>by
  simp only[a1m]at h;split at h
  ·cases h
  ·rename_i v hv;split at h
   ·cases h
   ·rename_i u hu;cases h;obtain⟨z,h1,h2⟩:=resV_ok hT hS hF hv;obtain⟨xs,h3,h4⟩:=mapM_ok hT hS hF hu;exact⟨z::xs,by simp only[List.mapM_cons,Sem.run_bind,h1,Result.andThen_ok,h3,Sem.run_pure],E9.2 ⟨z,xs,rfl,h2,h4⟩⟩
theorem c4R (hT:TOk P T)(hS:Sim ρ lab H w)(hF:a3N ρ lab w fr tmps){fn:Func}(h:a7m T fr H fn.results.toList=some v):∃z,(results fn tmps).run P w=.ok z w/\Rel ρ lab w v z:=by
 have hr:(results fn tmps) =(do let vs <-fn.results.mapM (b7V tmps);pure (if h:vs.size=1 then vs[0]else .tuple vs)):=by
  unfold results;congr 1
 rw[hr];unfold a7m at h;have key:∀vs,a1m (b6b T fr H) fn.results.toList=some vs -> ∃xs,(fn.results.mapM (b7V tmps)).run P w=.ok xs.toArray w/\J2 ρ lab w vs xs:=by
  intro vs hvs;obtain⟨xs,h1,h2⟩:=mapM_ok hT hS hF hvs;refine⟨xs,?_,h2⟩;rw[Array.mapM_eq_mapM_toList];simp only[map_eq_pure_bind,Sem.run_bind,h1,Result.andThen_ok,Sem.run_pure]
 split at h
 ·rename_i v' hvs;cases h;obtain⟨xs,h1,h2⟩:=key _ hvs;obtain⟨x,xr,rfl,h3,h4⟩:=E9.1 h2;have:xr=[]:=by have:=h4.1;simpa using this
  subst this;exact⟨x,by simp[Sem.run_bind,h1,Result.andThen_ok],h3⟩
 ·rename_i vs hno hvs;cases h;obtain⟨xs,h1,h2⟩:=key _ hvs;refine⟨.tuple xs.toArray,?_,.tuple vs xs h2.1 h2.2⟩;have hsz:¬xs.toArray.size=1:=by
   intro hsz;have hl:vs.length=1:=by rw[<-h2.1];simpa using hsz
   match vs,hl with
   | [v],_=>exact hno v rfl
  simp[Sem.run_bind,h1,Result.andThen_ok];intro h5;exact absurd (by simpa using h5) hsz
 ·cases h
theorem b9g:∀(args:List V) (k t:Nat),look t (a3f k args)=if k<=t then(args[t-k]?).getD .undef else .undef
 | [],k,t=>by simp[a3f,look]
 | v::r,k,t=>by
  simp only[a3f];by_cases hk:k=t
  ·subst hk;rw[a3T];simp
  ·rw[a18 hk,b9g r (k+1) t];by_cases h:k<=t
   ·rw[if_pos (by omega),if_pos h];have:t-k=t-(k+1)+1:=by omega
    rw[this,List.getElem?_cons_succ]
   ·rw[if_neg (by omega),if_neg h]
structure a7J (P:Program)(g:Nat)(h:List V->Hp->Option Out):Prop where
 call:∀args H out,h args H=some out -> ∀ρ lab w xs,Canon 0 H->Sim ρ lab H w->J2 ρ lab w args xs->Calls P g xs.toArray w (a8y ρ lab H w out)
 known:∃fn c,P.funcs[g]? = some fn/\(fn.name == "runtime.NumGoroutine")=false/\fn.body=some c
structure ViaOk (P:Program)(g:Nat)(pre:List V->Hp->Option (Nat×List V×Hp))(post:List V->Hp->Out->Option Out):Prop where
 call:∀args H g' l H' o out,pre args H=some (g',l,H')->post args H o=some out -> ∀ρ lab w xs,Canon 0 H->Sim ρ lab H w->J2 ρ lab w args xs ->
  (∀ρ lab w ys,Canon 0 H'->Sim ρ lab H' w->J2 ρ lab w l ys->Calls P g' ys.toArray w (a8y ρ lab H' w o))->Calls P g xs.toArray w (a8y ρ lab H w out)
 known:∃fn c,P.funcs[g]? = some fn/\(fn.name == "runtime.NumGoroutine")=false/\fn.body=some c
structure a7q (env:Env):Prop where
 meth:a8z env
 T:TOk env.P env.T
 mixed:env.P.follows .mixedOrders=true
 code:∀g fn c,env.ok g=true->env.P.funcs[g]? = some fn->fn.body=some c->a6S env g fn.ntmps c=true/\(fn.name == "runtime.NumGoroutine")=false
 intr:∀g h,env.intr g=some (.plain h)->a7J env.P g h
 via:∀g pre post,env.intr g=some (.via pre post)->ViaOk env.P g pre post
theorem b8H (hE:a7q env) (h:a5e env orc g args H=some out):∃fn c,env.P.funcs[g]? = some fn/\(fn.name == "runtime.NumGoroutine")=false/\fn.body=some c:=by
 unfold a5e at h;split at h
 ·rename_i fn hf hok;split at h
  ·cases h
  ·rename_i c hb;exact⟨fn,c,hf,(hE.code g fn c hok hf hb).2,hb⟩
 ·cases h
theorem c4T (hE:a7q env) (hO:a9D env.P orc) (hL:b9X env k orc) {xs:List Value} (h:a5e env orc g args H = some out)
    (hc:Canon 0 H) (hS:Sim ρ lab H w) (hx:J2 ρ lab w args xs) :
    Calls env.P g xs.toArray w (a8y ρ lab H w out) /\ ∃fn c,env.P.funcs[g]? = some fn/\(fn.name == "runtime.NumGoroutine")=false/\fn.body=some c:=by
  unfold a5e at h;split at h
  · rename_i fn hf hok
    split at h
    · cases h
    · rename_i c hb
      obtain⟨hB,hN⟩:=hE.code g fn c hok hf hb;refine⟨calls_of_wp hf hb ?_,fn,c,hf,hN,hb⟩;have hF:FOk ρ lab w (a3f 0 args) {tmps:=xs.toArray++Array.replicate (fn.ntmps-xs.toArray.size) undef,defers:=[]} (xs.toArray++Array.replicate (fn.ntmps-xs.toArray.size) undef).size:=by
        refine⟨fun t=>?_,rfl,rfl⟩;rw[b9g,if_pos (Nat.zero_le _),Nat.sub_zero];cases hv:args[t]? with
        | none=>exact .undef _
        | some v =>
          have hlt:t<xs.length:=by
            rw[hx.1];rcases Nat.lt_or_ge t args.length with h1|h1
            · exact h1
            · rw[List.getElem?_eq_none h1]at hv;cases hv
          have h2:(xs.toArray++Array.replicate (fn.ntmps-xs.toArray.size) undef).getD t undef=xs[t]:=by
            rw[Array.getD_eq_getD_getElem?,Array.getElem?_append_left (by simpa using hlt)];simp[hlt]
          simp only[Option.getD_some];rw[h2];exact hx.2 t v xs[t] hv (by simp[hlt])
      have hn:fn.ntmps <=(xs.toArray++Array.replicate (fn.ntmps-xs.toArray.size) undef).size:=by simp;omega
      cases hev:E8 env orc g H.length c (a3f 0 args) H with
      | none=>rw[hev]at h;cases h
      | some r =>
        rw[hev]at h;refine c5y hE.meth hE.T hE.mixed hO hL c ρ lab w H _ _ r _ hB hn hev hS hF _ fun e a' w' hp=>?_;obtain⟨ex,fr',H1⟩:=r;obtain⟨ρ1,a3R,h1,h2,h3,h4,h5⟩:=hp;have fin0:∀{a3R H1 v x v2 H2},Ext lab w a3R w'->Sim ρ1 a3R H1 w'->Rel ρ1 a3R w' v x->finish H.length v H1=some (v2,H2)->Done ρ lab H w (a3C (env.tags g) v2 H2).1 (a3C (env.tags g) v2 H2).2 x w':=by
          intro a3R H1 v x v2 H2 h2 h1 hv hfi;obtain⟨ρ2,lab2,k1,k2,k3,k4,k5,k6⟩:=b85 h1 hv hfi;obtain⟨ρ3,m1,m2,m3,m4,m5⟩:=c7S (b:=env.tags g) k5 k1 k4;exact⟨ρ3,lab2,m2,h2.trans k2,(h3.trans k3 (Nat.le_refl _)).trans (a2q.of_le m1 _) (Nat.le_refl _),m3,m4,Nat.le_trans k6 m5⟩
        have fin:∀{v x v2 H2},Rel ρ1 a3R w' v x->finish H.length v H1=some (v2,H2)->Done ρ lab H w (a3C (env.tags g) v2 H2).1 (a3C (env.tags g) v2 H2).2 x w':=fun hv hfi=>fin0 h2 h1 hv hfi;have res:∀ {out':Out},FOk ρ1 a3R w' fr' a' (xs.toArray ++ Array.replicate (fn.ntmps - xs.toArray.size) undef).size ->
            (match a7m env.T fr' H1 fn.results.toList with
              | some v=>match finish H.length (match env.tags g with|true=>b7p (env.b3E g) (b1w (env.frz g) v H1).1|false=>b75 (b1w (env.frz g) v H1).1) (b1w (env.frz g) v H1).2 with
                | some (v,H2)=>some (Out.ret (a3C (env.tags g) v H2).1 (a3C (env.tags g) v H2).2)
                | none=>none
              | none=>none)=some out' -> ∃x,(results fn a'.tmps).run env.P w'=.ok x w'/\a8y ρ lab H w out' (.returned x) w':=by
          intro out' hf' h;split at h
          · rename_i v hv
            split at h
            · rename_i v2 H2 hfi
              cases h;obtain⟨x,g1,g2⟩:=c4R hE.T h1 hf'.rel hv;obtain⟨l3,q1,q2,q3⟩:=c5I (b:=env.frz g) h1 g2;refine⟨x,g1,fin0 (h2.trans q1) q2 ?_ hfi⟩;split
              · exact q3.b7p
              · exact q3.b75
            · cases h
          · cases h
        cases ex with
        | normal =>
          cases e with
          | normal=>exact⟨h4,res h5 h⟩
          | _=>exact h5.elim
        | ret =>
          cases e with
          | ret=>exact⟨h4,res h5 h⟩
          | _=>exact h5.elim
        | exit i=>cases h
        | panic v =>
          cases e with
          | panic ch =>
            obtain⟨x,rfl,hx'⟩:=h5;simp only at h;split at h
            · rename_i v2 H2 hfi
              cases h;exact⟨h4,x,rfl,fin hx' hfi⟩
            · cases h
          | _=>exact h5.elim
  · cases h
theorem c4U (hE:a7q env)(hO:a9D env.P orc)(hL:b9X env k orc){f nr nt:Nat}{body:Code}{r:Res}(h:a7n env orc f nr body fr H=some (.res r))(hB:a6S env f nt body=true)(hn:nt<=n)
  (hS:Sim ρ lab H w) (hF:FOk ρ lab w fr a n):Code.rounds env.P body (Post nr n ρ lab w r) (k+1) a w:=by
 rw[rounds_succ];unfold a7n at h;cases hev:E8 env orc f nr body fr H with
 | none=>rw[hev]at h;cases h
 | some r1 =>
  rw[hev]at h;refine c5y hE.meth hE.T hE.mixed hO hL body ρ lab w H fr a r1 n hB hn hev hS hF _ fun e a' w' hp=>?_;obtain⟨ex,fr',H1⟩:=r1;have hp':=hp;obtain⟨ρ1,a3R,h1,h2,h3,h4,h5⟩:=hp;cases ex with
  | normal =>
   simp only at h;cases e with
   | normal =>
    split at h
    ·rename_i fr2 H2 hnm;obtain⟨ρ2,lab2,k1,k2,k3,k4⟩:=b5k h1 h5.rel hnm;have h6:FOk ρ2 lab2 w' fr2 a' n:=⟨k4,h5.size,h4⟩
     exact b2U (fun e a w hp=>(hp.trans k2 k3).trans h2 h3) k a' w' (hL f nr body fr2 H2 r h ρ2 lab2 w' a' n nt hB hn k1 h6)
    ·cases h
   | _=>exact h5.elim
  | ret =>
   cases h;cases e with
   | ret=>exact hp'
   | _=>exact h5.elim
  | exit i =>
   cases h;cases e with
   | exit j=>exact hp'
   | _=>exact h5.elim
  | panic v =>
   cases h;cases e with
   | panic ch=>exact hp'
   | _=>exact h5.elim
theorem b70 (hE:a7q env):∀k,a9D env.P (run env k)/\b9X env k (run env k)
 | 0=>⟨⟨fun g args H out h=>(by cases h),fun g args H out h=>(by cases h)⟩,fun f nr body fr H r h=>(by cases h)⟩
 | k+1=>by
  obtain⟨hO,hL⟩:=b70 hE k;refine⟨⟨fun g args H out h ρ lab w xs hc hS hx=>?_,fun g args H out h=>?_⟩,fun f nr body fr H r h ρ lab w a n nt hB hn hS hF=>c4U hE hO hL h hB hn hS hF⟩
  ·simp only[run,step]at h;split at h
   ·rename_i hh hi;exact(hE.intr g hh hi).call args H out h ρ lab w xs hc hS hx
   ·rename_i pre post hi;split at h
    ·rename_i g' l H' hp;split at h
     ·rename_i o ho;exact(hE.via g pre post hi).call args H g' l H' o out hp h ρ lab w xs hc hS hx (fun ρ lab w ys hc2 hS2 hy=>hO.call g' l H' o ho ρ lab w ys hc2 hS2 hy)
     ·cases h
    ·cases h
   ·exact(c4T hE hO hL h hc hS hx).1
  ·simp only[run,step]at h;split at h
   ·rename_i hh hi;exact(hE.intr g hh hi).known
   ·rename_i pre post hi;exact(hE.via g pre post hi).known
   ·exact b8H hE h
end
variable {ops:Array Oper} {fr:Fr} {H:Hp} {S sl:List Nat} {args:List V} {xs:List Value} {f g k m nr:Nat} {r:OpR} {o:Oper} {t:Task} {w:World}
section
variable {env:Env} {orc orc':Orc}
def OLe (a b:Orc):Prop:=∀t H o,a t H=some o->b t H=some o
structure Chain (c:Nat->Orc)(e:Orc):Prop where
 le:∀k,OLe (c k) e
 up:∀k,OLe (c k) (c (k+1))
 at_:∀t H o,e t H=some o -> ∃k,c k t H=some o
theorem Chain.mono {c:Nat->Orc}{e:Orc}(h:Chain c e):∀{j k:Nat},j<=k->OLe (c j) (c k):=by
 intro j k hjk;induction hjk with
 | refl=>exact fun _ _ _ h=>h
 | step _ ih=>exact fun t H o ho=>h.up _ t H o (ih t H o ho)
theorem b3R (h:OLe orc orc')(hr:a15 orc g args H=some r):a15 orc' g args H=some r:=by
 unfold a15 at hr ⊢;split at hr
 ·cases hr
 ·split at hr
  ·rename_i ho;rw[h _ _ _ ho];exact hr
  ·cases hr
theorem a8e (h:OLe orc orc')(hr:Y4 env orc k g args H=some r):Y4 env orc' k g args H=some r:=by
 unfold Y4 at hr ⊢;split at hr
 ·rename_i hq;exact b3R h hr
 ·simp only at hr ⊢;split at hr
  ·split at hr
   ·rename_i ho;rw[h _ _ _ ho];exact hr
   ·rename_i ho;rw[h _ _ _ ho];exact hr
   ·cases hr
  ·cases hr
theorem c3J (h:OLe orc orc')(hr:a2r env orc k g args H=some r):a2r env orc' k g args H=some r:=by
 unfold a2r at hr ⊢;split at hr
 ·exact b3R h hr
 ·split at hr
  ·exact a8e h hr
  ·split at hr
   ·rename_i ho;rw[a8e h ho];exact hr
   ·cases hr
theorem c4v (h:OLe orc orc')(hr:V5 env orc fr H o=some r):V5 env orc' fr H o=some r:=by
  unfold V5 at hr ⊢;split at hr<;>first
    | exact hr
    | (split at hr
       · first
         | exact c3J h hr
         | exact a8e h hr
         | (split at hr
            · exact a8e h hr
            · cases hr)
       · cases hr)
theorem a9u (h:OLe orc orc')(hr:O0 env orc fr H o=some r):O0 env orc' fr H o=some r:=by
 unfold O0 at hr ⊢;split at hr
 ·exact hr
 ·exact c4v h hr
theorem a4W (h:OLe orc orc'){ops:Array Oper}:∀{l:List Oper} {fr:Fr} {H:Hp} {r:Res},J5 env orc ops l fr H=some r->J5 env orc' ops l fr H=some r
 | [],fr,H,r,hr=>hr
 | o::l,fr,H,r,hr=>by
  simp only[J5]at hr ⊢;cases hw:E5 ops o fr with
  | none=>rw[hw]at hr;cases hr
  | some b =>
   rw[hw]at hr;cases b with
   | false=>exact a4W h hr
   | true =>
    simp only at hr ⊢;cases ho:O0 env orc fr H o with
    | none=>rw[ho]at hr;cases hr
    | some x =>
     rw[ho]at hr;rw[a9u h ho];cases x with
     | val v H1=>exact a4W h hr
     | pan v H1=>exact hr
theorem a5s (h:OLe orc orc'){L sl:List Nat}{ops:Array Oper}:∀{l:List Oper} {fr:Fr} {H:Hp} {r:Res},J7 env orc L sl ops l fr H=some r->J7 env orc' L sl ops l fr H=some r
 | [],fr,H,r,hr=>hr
 | o::l,fr,H,r,hr=>by
  simp only[J7]at hr ⊢;cases hw:E5 ops o fr with
  | none=>rw[hw]at hr;cases hr
  | some b =>
   rw[hw]at hr;cases b with
   | false=>exact a5s h hr
   | true =>
    simp only at hr ⊢;cases hp:a3u env L sl fr H o with
    | false=>rw[hp]at hr;cases hr
    | true =>
    rw[hp]at hr;simp only at hr ⊢;cases ho:O0 env orc fr H o with
    | none=>rw[ho]at hr;cases hr
    | some x =>
     rw[ho]at hr;rw[a9u h ho];cases x with
     | val v H1=>exact a5s h hr
     | pan v H1=>exact hr
theorem c0l (h:OLe orc orc'){r:Res}(hr:a5E env orc nr ops S sl fr H=some r):a5E env orc' nr ops S sl fr H=some r:=by
 unfold a5E at hr ⊢;split at hr
 ·cases hr
 ·rename_i ho;rw[a4W h ho];simp only;split at hr
  ·cases hr
  ·cases hq:J7 env orc _ sl ops (a7R ops S) fr H with
   | none=>rw[hq]at hr;cases hr
   | some x=>rw[hq]at hr;rw[a5s h hq];exact hr
theorem a5r (h:OLe orc orc'):∀{c:Code} {fr:Fr} {H:Hp} {r:Res},E8 env orc f nr c fr H=some r->E8 env orc' f nr c fr H=some r:=by
 intro c;induction c with
 | region id ops d =>
  intro fr H r hr;simp only[E8]at hr ⊢;split at hr
  ·exact c0l h hr
  ·cases ho:J5 env orc ops ops.toList fr H with
   | none =>
    rw[ho]at hr;cases hd:(d&&env.loose f)<;>rw[hd]at hr<;>cases hr
   | some x=>rw[ho]at hr;rw[a4W h ho];exact hr
 | seq a b iha ihb =>
  intro fr H r hr;simp only[E8]at hr ⊢;cases ho:E8 env orc f nr a fr H with
  | none=>rw[ho]at hr;cases hr
  | some x =>
   rw[ho]at hr;rw[iha ho];obtain⟨e,fr1,H1⟩:=x;cases e with
   | normal =>
    simp only at hr ⊢;split at hr
    ·exact ihb hr
    ·cases hr
   | _=>exact hr
 | cond c a b iha ihb =>
  intro fr H r hr;simp only[E8]at hr ⊢;split at hr
  ·split at hr
   ·exact iha hr
   ·exact ihb hr
  ·cases hr
 | block id a iha =>
  intro fr H r hr;simp only[E8]at hr ⊢;cases ho:E8 env orc f nr a fr H with
  | none=>rw[ho]at hr;cases hr
  | some x=>rw[ho]at hr;rw[iha ho];exact hr
 | loop a iha =>
  intro fr H r hr;simp only[E8]at hr ⊢;split at hr
  ·split at hr
   ·rename_i ho;rw[h _ _ _ ho];exact hr
   ·cases hr
  ·cases hr
 | _=>exact fun hr=>hr
theorem c7Q (h:OLe orc orc'):OLe (step env orc) (step env orc'):=by
 intro t H o hr;cases t with
 | call g args =>
  simp only[step]at hr ⊢;split at hr
  ·exact hr
  ·split at hr
   ·rename_i hp;split at hr
    ·rename_i ho;rw[h _ _ _ ho];exact hr
    ·cases hr
   ·cases hr
  ·unfold a5e at hr ⊢;split at hr
   ·split at hr
    ·cases hr
    ·rename_i hb;try simp only
     cases ho:E8 env orc g H.length _ (a3f 0 args) H with
     | none=>rw[ho]at hr;cases hr
     | some x=>rw[ho]at hr;rw[a5r h ho];exact hr
   ·cases hr
 | loop f nr body fr =>
  simp only[step,a7n]at hr ⊢;cases ho:E8 env orc f nr body fr H with
  | none=>rw[ho]at hr;cases hr
  | some x =>
   rw[ho]at hr;rw[a5r h ho];obtain⟨e,fr1,H1⟩:=x;cases e with
   | normal =>
    simp only at hr ⊢;split at hr
    ·exact h _ _ _ hr
    ·cases hr
   | _=>exact hr
theorem run_up (env:Env):∀k,OLe (run env k) (run env (k+1))
 | 0=>fun t H o h=>by cases h
 | k+1=>c7Q (run_up env k)
open Classical in
noncomputable def E (env:Env):Orc:=fun t H=>if h:∃k o,run env k t H=some o then some (Classical.choose (Classical.choose_spec h))else none
theorem a3W (env:Env):Chain (run env) (E env):=by
 have up:=run_up env;have mono:∀{j k:Nat},j<=k->OLe (run env j) (run env k):=by
  intro j k hjk;induction hjk with
  | refl=>exact fun _ _ _ h=>h
  | step _ ih=>exact fun t H o ho=>up _ t H o (ih t H o ho)
 have fn:∀{j k t H o o'},run env j t H=some o->run env k t H=some o'->o=o':=by
  intro j k t H o o' h1 h2;have h3:=mono (Nat.le_max_left j k) t H o h1;have h4:=mono (Nat.le_max_right j k) t H o' h2;rw[h3]at h4;cases h4;rfl
 refine⟨fun k t H o h=>?_,up,fun t H o h=>?_⟩
 ·have hex:∃k o,run env k t H=some o:=⟨k,o,h⟩
  unfold E;rw[dif_pos hex];have:=Classical.choose_spec (Classical.choose_spec hex);rw[fn this h]
 ·unfold E at h;split at h
  ·rename_i hex;cases h;exact⟨_,Classical.choose_spec (Classical.choose_spec hex)⟩
  ·cases h
section
variable {c:Nat->Orc} {e:Orc}
theorem b3Q (h:Chain c e)(hr:a15 e g args H=some r):∃k,a15 (c k) g args H=some r:=by
 unfold a15 at hr ⊢;split at hr
 ·cases hr
 ·split at hr
  ·rename_i ho;obtain⟨k,hk⟩:=h.at_ _ _ _ ho;exact⟨k,by rw[hk];exact hr⟩
  ·cases hr
theorem a8d (h:Chain c e)(hr:Y4 env e m g args H=some r):∃k,Y4 env (c k) m g args H=some r:=by
 unfold Y4 at hr ⊢;split at hr
 ·rename_i hq;try simp only[hq]
  exact b3Q h hr
 ·rename_i hq;simp only[hq]at hr ⊢;split at hr
  ·split at hr
   ·rename_i ho;obtain⟨k,hk⟩:=h.at_ _ _ _ ho;exact⟨k,by rw[hk];exact hr⟩
   ·rename_i ho;obtain⟨k,hk⟩:=h.at_ _ _ _ ho;exact⟨k,by rw[hk];exact hr⟩
   ·cases hr
  ·cases hr
theorem c3H (h:Chain c e)(hr:a2r env e m g args H=some r):∃k,a2r env (c k) m g args H=some r:=by
 cases hq:env.quiet g with
 | true =>
  simp only[a2r,hq]at hr ⊢;exact b3Q h hr
 | false=>cases hl:env.look g with
  | false =>
   simp only[a2r,hq,hl]at hr ⊢;exact a8d h hr
  | true =>
   simp only[a2r,hq,hl]at hr ⊢;cases ho:Y4 env e m g args H with
   | none=>rw[ho]at hr;cases hr
   | some r0 =>
    rw[ho]at hr;obtain⟨k,hk⟩:=a8d h ho;exact⟨k,by rw[hk];exact hr⟩
theorem c4u (h:Chain c e)(hr:V5 env e fr H o=some r):∃k,V5 env (c k) fr H o=some r:=by
  unfold V5 at hr ⊢;split at hr<;>first
    | exact⟨0,hr⟩
    | (split at hr
       · first
         | exact c3H h hr
         | exact a8d h hr
         | (split at hr
            · exact a8d h hr
            · cases hr)
       · cases hr)
theorem b5X (h:Chain c e)(hr:O0 env e fr H o=some r):∃k,O0 env (c k) fr H o=some r:=by
 unfold O0 at hr ⊢;split at hr
 ·exact⟨0,hr⟩
 ·exact c4u h hr
theorem a8i (h:Chain c e){ops:Array Oper}:∀{l:List Oper} {fr:Fr} {H:Hp} {r:Res},J5 env e ops l fr H=some r -> ∃k,J5 env (c k) ops l fr H=some r
 | [],fr,H,r,hr=>⟨0,hr⟩
 | o::l,fr,H,r,hr=>by
  simp only[J5]at hr ⊢;cases hw:E5 ops o fr with
  | none=>rw[hw]at hr;cases hr
  | some b =>
   rw[hw]at hr;cases b with
   | false=>exact a8i h hr
   | true =>
    simp only at hr ⊢;cases ho:O0 env e fr H o with
    | none=>rw[ho]at hr;cases hr
    | some x =>
     rw[ho]at hr;obtain⟨k,hk⟩:=b5X h ho;cases x with
     | val v H1 =>
      obtain⟨j,hj⟩:=a8i h hr;refine⟨max k j,?_⟩;rw[a9u (h.mono (Nat.le_max_left k j)) hk];exact a4W (h.mono (Nat.le_max_right k j)) hj
     | pan v H1=>exact⟨k,by rw[hk];exact hr⟩
theorem a9F (h:Chain c e){L sl:List Nat}{ops:Array Oper}:∀{l:List Oper} {fr:Fr} {H:Hp} {r:Res},J7 env e L sl ops l fr H=some r -> ∃k,J7 env (c k) L sl ops l fr H=some r
 | [],fr,H,r,hr=>⟨0,hr⟩
 | o::l,fr,H,r,hr=>by
  simp only[J7]at hr ⊢;cases hw:E5 ops o fr with
  | none=>rw[hw]at hr;cases hr
  | some b =>
   rw[hw]at hr;cases b with
   | false=>exact a9F h hr
   | true =>
    simp only at hr ⊢;cases hp:a3u env L sl fr H o with
    | false=>rw[hp]at hr;cases hr
    | true =>
    rw[hp]at hr;simp only at hr ⊢;cases ho:O0 env e fr H o with
    | none=>rw[ho]at hr;cases hr
    | some x =>
     rw[ho]at hr;obtain⟨k,hk⟩:=b5X h ho;cases x with
     | val v H1 =>
      obtain⟨j,hj⟩:=a9F h hr;refine⟨max k j,?_⟩;rw[a9u (h.mono (Nat.le_max_left k j)) hk];exact a5s (h.mono (Nat.le_max_right k j)) hj
     | pan v H1=>exact⟨k,by rw[hk];exact hr⟩
theorem c0k (h:Chain c e){r:Res}(hr:a5E env e nr ops S sl fr H=some r):∃k,a5E env (c k) nr ops S sl fr H=some r:=by
 unfold a5E at hr;split at hr
 ·cases hr
 ·rename_i ho;obtain⟨k,hk⟩:=a8i h ho;split at hr
  ·cases hr
  ·rename_i hL;cases hq:J7 env e _ sl ops (a7R ops S) fr H with
   | none=>rw[hq]at hr;cases hr
   | some x =>
    rw[hq]at hr;obtain⟨j,hj⟩:=a9F h hq;refine⟨max k j,?_⟩;unfold a5E;rw[a4W (h.mono (Nat.le_max_left k j)) hk];simp only[hL];rw[a5s (h.mono (Nat.le_max_right k j)) hj];exact hr
theorem b3M (h:Chain c e):∀{d:Code} {fr:Fr} {H:Hp} {r:Res},E8 env e f nr d fr H=some r -> ∃k,E8 env (c k) f nr d fr H=some r:=by
 intro d;induction d with
 | region id ops d =>
  intro fr H r hr;simp only[E8]at hr ⊢;split at hr
  ·exact c0k h hr
  ·cases ho:J5 env e ops ops.toList fr H with
   | none =>
    rw[ho]at hr;cases hd:(d&&env.loose f)<;>rw[hd]at hr<;>cases hr
   | some x=>rw[ho]at hr;obtain⟨k,hk⟩:=a8i h ho;exact⟨k,by rw[hk];exact hr⟩
 | seq a b iha ihb =>
  intro fr H r hr;simp only[E8]at hr ⊢;cases ho:E8 env e f nr a fr H with
  | none=>rw[ho]at hr;cases hr
  | some x =>
   rw[ho]at hr;obtain⟨k,hk⟩:=iha ho;obtain⟨ex,fr1,H1⟩:=x;cases ex with
   | normal =>
    simp only at hr ⊢;split at hr
    ·rename_i hcu;obtain⟨j,hj⟩:=ihb hr;refine⟨max k j,?_⟩;rw[a5r (h.mono (Nat.le_max_left k j)) hk];simp only[hcu];exact a5r (h.mono (Nat.le_max_right k j)) hj
    ·cases hr
   | _=>exact⟨k,by rw[hk];exact hr⟩
 | cond c a b iha ihb =>
  intro fr H r hr;simp only[E8]at hr ⊢;cases hc:ev fr c with
  | none=>rw[hc]at hr;cases hr
  | some v =>
   rw[hc]at hr;cases v with
   | bool t=>cases t with
    | true=>exact iha hr
    | false=>exact ihb hr
   | _=>cases hr
 | block id a iha =>
  intro fr H r hr;simp only[E8]at hr ⊢;cases ho:E8 env e f nr a fr H with
  | none=>rw[ho]at hr;cases hr
  | some x=>rw[ho]at hr;obtain⟨k,hk⟩:=iha ho;exact⟨k,by rw[hk];exact hr⟩
 | loop a iha =>
  intro fr H r hr;simp only[E8]at hr ⊢;cases hn:normal env f nr (a1G a) fr H with
  | none=>rw[hn]at hr;cases hr
  | some x =>
   rw[hn]at hr;simp only at hr ⊢;split at hr
   ·rename_i ho;obtain⟨k,hk⟩:=h.at_ _ _ _ ho;exact⟨k,by rw[hk];exact hr⟩
   ·cases hr
 | _=>intro fr H r hr;first|exact⟨0,hr⟩|cases hr
theorem c7P (h:Chain c e){o:Out}(hr:step env e t H=some o):∃k,step env (c k) t H=some o:=by
 cases t with
 | call g args =>
  simp only[step]at hr ⊢;cases hi:env.intr g with
  | some f =>
   rw[hi]at hr;cases f with
   | plain f=>exact⟨0,hr⟩
   | via pre post =>
    simp only at hr ⊢;split at hr
    ·rename_i hp;split at hr
     ·rename_i ho;obtain⟨k,hk⟩:=h.at_ _ _ _ ho;exact⟨k,by rw[hk];exact hr⟩
     ·cases hr
    ·cases hr
  | none =>
   rw[hi]at hr;simp only at hr ⊢;unfold a5e at hr ⊢;split at hr
   ·rename_i fn hf hok;split at hr
    ·cases hr
    ·rename_i d hb;try simp only[hb]
     cases ho:E8 env e g H.length d (a3f 0 args) H with
     | none=>rw[ho]at hr;cases hr
     | some x =>
      rw[ho]at hr;obtain⟨k,hk⟩:=b3M h ho;exact⟨k,by rw[hk];exact hr⟩
   ·cases hr
 | loop f nr body fr =>
  simp only[step,a7n]at hr ⊢;cases ho:E8 env e f nr body fr H with
  | none=>rw[ho]at hr;cases hr
  | some x =>
   rw[ho]at hr;obtain⟨k,hk⟩:=b3M h ho;obtain⟨ex,fr1,H1⟩:=x;cases ex with
   | normal =>
    simp only at hr ⊢;cases hn:normal env f nr (a1G body) fr1 H1 with
    | none=>rw[hn]at hr;cases hr
    | some y =>
     rw[hn]at hr;simp only at hr;obtain⟨j,hj⟩:=h.at_ _ _ _ hr;refine⟨max k j,?_⟩;rw[a5r (h.mono (Nat.le_max_left k j)) hk];simp only[hn];exact h.mono (Nat.le_max_right k j) _ _ _ hj
   | _=>exact⟨k,by rw[hk];exact hr⟩
end
theorem c3w {o:Out}(h:step env (E env) t H=some o):E env t H=some o:=by
 obtain⟨k,hk⟩:=c7P (a3W env) h;exact(a3W env).le (k+1) t H o hk
theorem E_call {o:Out}(hi:env.intr g=none)(h:a5e env (E env) g args H=some o):E env (.call g args) H=some o :=
 c3w (by simp only[step,hi];exact h)
theorem b9W {body:Code}{o:Out}(h:a7n env (E env) f nr body fr H=some o):E env (.loop f nr body fr) H=some o:=c3w h
theorem c3K (hE:a7q env){v:V}(hkp:KpW w)(h:E env (.call g args) []=some (.ret v []))(hx:J2 ⟨fun _=>none,fun _ _=>none⟩ (fun _ _=>none) w args xs) :
  Calls env.P g xs.toArray w fun e w'=>∃x ρ lab,e=.returned x/\Rel ρ lab w' v x/\RowKit.Below w.heap.size w w':=by
 obtain⟨k,hk⟩:=(a3W env).at_ _ _ _ h;refine((b70 hE k).1.call g args [] _ hk ⟨fun _=>none,fun _ _=>none⟩ (fun _ _=>none) w xs trivial ?_ hx).mono fun e w' he=>?_
 ·exact⟨Kp.none hkp,fun k cs h=>(by cases h),fun k e cs h=>(by cases h),fun k e n h=>(by cases h),fun k es h=>(by cases h),fun k n x h=>(by cases h),fun k x h=>(by cases h),fun b o k h=>(by cases h)⟩
 ·cases e with
  | returned x =>
   obtain⟨ρ',lab',h1,h2,h3,h4,h5⟩:=he;exact⟨x,ρ',lab',rfl,h4,⟨h2.os,h2.tape,h2.output,h2.size,fun b hb=>h2.blk b hb (fun o k h=>by cases h)⟩⟩
  | panicked ch=>exact he.elim
  | outgrown=>exact he.elim
theorem c3L (hE:a7q env)(hkp:KpW w)(h:E env (.call g args) []=some (.ret (.bool true) []))(hx:J2 ⟨fun _=>none,fun _ _=>none⟩ (fun _ _=>none) w args xs) :
  Calls env.P g xs.toArray w fun e w'=>e=.returned (.bool true)/\RowKit.Below w.heap.size w w' :=
 (c3K hE hkp h hx).mono fun e w' ⟨x,ρ,lab,h1,h2,h3⟩=>by cases h2;exact⟨h1,h3⟩
end
variable {at_:Array TypeId} {body c:Code} {fn:Func} {H3 H4 Hc:Hp} {ns:List Nat} {ac args cs l l2 news:List V} {a b e g i k m n t w xt:Nat} {y ye yx:Ty} {v2 v4 x:V}
section
variable {env:Env} {orc:Orc} {f nr:Nat} {ops:Array Oper} {o:Oper} {rest:List Oper} {fr fr1:Fr} {H H1:Hp} {r:Option Res} {v:V} {K:Res->Prop}
theorem a2R {args:Array Operand}{v:V}(hw:E5 ops o fr=some true)(ho:o.op=.call ⟨.value (.func g),args,at_⟩)(hq:env.quiet g=true)
  (hl:evL fr args.toList=some l) (hr:a1m (a1D a4J dep) (l.map a9z)=some l2) (hc:orc (.call g l2) []=some (.ret v [])) (hv:a1D a4J dep v=some v2)
  (h:Os env orc ops rest (V9 o.dst v2 fr) H K):Os env orc ops (o::rest) fr H K:=by
 have hp:O1 o.op=false:=by rw[ho];rfl
 refine a2l hw hp (v:=v2) (H1:=H) ?_ h;unfold V5;rw[ho];simp only[ev,hl,List.nil_append,List.append_nil,a2r,hq,a15,hr,hc,hv]
theorem b9o {f:Operand}{args:Array Operand}{v:V}(hw:E5 ops o fr=some true)(ho:o.op=.call ⟨.value f,args,at_⟩)(hf:ev fr f=some (.func (.func g) [] []))
  (hq:env.quiet g=true) (hl:evL fr args.toList=some l) (hr:a1m (a1D a4J dep) (l.map a9z)=some l2) (hc:orc (.call g l2) []=some (.ret v [])) (hv:a1D a4J dep v=some v2)
  (h:Os env orc ops rest (V9 o.dst v2 fr) H K):Os env orc ops (o::rest) fr H K:=by
 have hp:O1 o.op=false:=by rw[ho];rfl
 refine a2l hw hp (v:=v2) (H1:=H) ?_ h;unfold V5;rw[ho];simp only[hf,hl,List.nil_append,List.append_nil,a2r,hq,a15,hr,hc,hv]
theorem b3k {args:Array Operand}{v:V}(hw:E5 ops o fr=some true)(ho:o.op=.call ⟨.value (.func g),args,at_⟩)
  (hl:evL fr args.toList=some l) (hc:a2r env orc (newName o) g l H=some (.val v H1))
  (h:Os env orc ops rest (V9 o.dst v fr) H1 K):Os env orc ops (o::rest) fr H K:=by
 have hp:O1 o.op=false:=by rw[ho];rfl
 refine a2l hw hp (v:=v) (H1:=H1) ?_ h;unfold V5;rw[ho];simp only[ev,hl,List.nil_append,List.append_nil,hc]
def a8b (env:Env)(g:Nat)(args:List V)(H:Hp):Option (List Nat×List V×Hp) :=
 fL (a2v (env.argTags g) (env.a7K g) args) fun b6I =>
 fN (reach H 99 (b6I.flatMap (a1i dep)) []) fun ns =>
 match a1m (a1D (idx · ns) dep) b6I,a6k H (idx · ns) ns 0 with
 | some Y3,some H2=>fL Y3 fun Y3=>fH H2 fun H2 =>
  fL (a3M (env.argTags g) Y3 ns.length).1 fun a1 =>
  fH ((U4 H2 (a3M (env.argTags g) Y3 ns.length).2).1++b3F ns.length ((U4 H2 (a3M (env.argTags g) Y3 ns.length).2).2-ns.length)) fun Hb =>
  fL (b2p env.full a1 Hb).1 fun ac=>fH (b2p env.full a1 Hb).2 fun Hc=>some (ns,ac,Hc)
 | _,_=>none
theorem a8c (h:a8b env g args H=some (ns,ac,Hc)):∃Y3 H2,reach H 99 ((a2v (env.argTags g) (env.a7K g) args).flatMap (a1i dep)) []=ns /\
  a1m (a1D (idx · ns) dep) (a2v (env.argTags g) (env.a7K g) args)=some Y3/\a6k H (idx · ns) ns 0=some H2 /\
  b2p env.full (a3M (env.argTags g) Y3 ns.length).1 ((U4 H2 (a3M (env.argTags g) Y3 ns.length).2).1++b3F ns.length ((U4 H2 (a3M (env.argTags g) Y3 ns.length).2).2-ns.length)) =(ac,Hc):=by
 unfold a8b at h;simp only[c1W,b81,b1q]at h;generalize hns:reach H 99 ((a2v (env.argTags g) (env.a7K g) args).flatMap (a1i dep)) []=ns' at h;split at h
 ·rename_i Y3 H2 h1 h2;simp only[Option.some.injEq,Prod.mk.injEq]at h;obtain⟨rfl,h3,h4⟩:=h;exact⟨Y3,H2,rfl,h1,h2,Prod.ext h3 h4⟩
 ·cases h
theorem a5J {v:V}(hq:(env.quiet g||env.look g)=false)(hp:a8b env g args H=some (ns,ac,Hc))(hc:orc (.call g ac) Hc=some (.ret v H3))(h7:a5K (a1D (J3 ns k) dep v)=some v4)
  (h8:a0O (a1H (J3 ns k) H3 H)=some H4) (h9:a4e H H3 k ns.length=true):a2r env orc k g args H=some (.val v4 H4):=by
 obtain⟨hq,hlk⟩:=Bool.or_eq_false_iff.1 hq;rw[a2P]at h8;rw[a96]at h7;obtain⟨Y3,H2,h1,h2,h3,h4⟩:=a8c hp;simp only[a2r,hlk,Y4,hq,h1,h2,h3,h4,hc,h7,h8,h9]
theorem c1E {v:V}(hq:(env.quiet g||env.look g)=false)(hp:a8b env g args H=some (ns,ac,Hc))(hc:orc (.call g ac) Hc=some (.pan v H3))(h7:a5K (a1D (J3 ns k) dep v)=some v4)
  (h8:a0O (a1H (J3 ns k) H3 H)=some H4) (h9:a4e H H3 k ns.length=true):a2r env orc k g args H=some (.pan v4 H4):=by
 obtain⟨hq,hlk⟩:=Bool.or_eq_false_iff.1 hq;rw[a2P]at h8;rw[a96]at h7;obtain⟨Y3,H2,h1,h2,h3,h4⟩:=a8c hp;simp only[a2r,hlk,Y4,hq,h1,h2,h3,h4,hc,h7,h8,h9]
theorem b91 {v:V}(hq:env.quiet g=false)(hlk:env.look g=true)(hp:a8b env g args H=some (ns,ac,Hc))(hc:orc (.call g ac) Hc=some (.ret v H3))(h7:a5K (a1D (J3 ns k) dep v)=some v4)
  (h8:a0O (a1H (J3 ns k) H3 H)=some H) (h9:a4e H H3 k ns.length=true):a2r env orc k g args H=some (.val v4 H):=by
 rw[a2P]at h8;rw[a96]at h7;obtain⟨Y3,H2,h1,h2,h3,h4⟩:=a8c hp;simp only[a2r,hlk,Y4,hq,h1,h2,h3,h4,hc,h7,h8,h9,c2s,c4V]
theorem a0l {j d:Nat}{w c:Bool}{fr':Fr}(hg:o.guard=some (j,w))(hd:(ops[j]?).bind (·.dst)=some d)(hf:fr =(d,.bool c)::fr')
  (h1:c=true->Os env orc ops (o::rest) ((d,.bool true)::fr') H K) (h2:c=false->Os env orc ops (o::rest) ((d,.bool false)::fr') H K):Os env orc ops (o::rest) fr H K:=by
 subst hf;cases c with
 | true=>exact h1 rfl
 | false=>exact h2 rfl
theorem a0d {c:Operand}{a b:Code}{t:Bool}(hc:ev fr c=some (.bool t))(h1:t=true->Ev env orc f nr a fr H K)(h2:t=false->Ev env orc f nr b fr H K):Ev env orc f nr (.cond c a b) fr H K:=by
 cases t with
 | true=>exact Z9 hc rfl (h1 rfl)
 | false=>exact a02 hc rfl (h2 rfl)
theorem wrap64 {x:Int}(h1:-9223372036854775808<=x)(h2:x<9223372036854775808):IntKind.wrap .i64 x=x:=by
 simp only[IntKind.wrap,IntKind.bits,IntKind.signed];simp;split<;>omega
theorem addN (h:i+k<9223372036854775808):a3P (some (.int .i64 (IntKind.wrap .i64 ((i:Int)+(k:Int)))))=some (.int .i64 ((i+k:Nat):Int)):=by
 rw[wrap64 (by omega) (by omega)];simp[a3P,fV]
theorem subN (h:k<=i)(hi:i<9223372036854775808):a3P (some (.int .i64 (IntKind.wrap .i64 ((i:Int)-(k:Int)))))=some (.int .i64 ((i-k:Nat):Int)):=by
 rw[wrap64 (by omega) (by omega)];simp only[a3P,fV];congr 2;omega
theorem add1 (h:i<9223372036854775807):a3P (some (.int .i64 (IntKind.wrap .i64 ((i:Int)+1))))=some (.int .i64 ((i+1:Nat):Int)):=addN (k:=1) (by omega)
theorem add2 (h:i<9223372036854775806):a3P (some (.int .i64 (IntKind.wrap .i64 ((i:Int)+2))))=some (.int .i64 ((i+2:Nat):Int)):=addN (k:=2) (by omega)
theorem sub1 (h:1<=i)(hi:i<9223372036854775808):a3P (some (.int .i64 (IntKind.wrap .i64 ((i:Int)-1))))=some (.int .i64 ((i-1:Nat):Int)):=subN (k:=1) h hi
theorem a2o (h:i<n):inR (i:Int) n=true:=by simp only[inR,Bool.and_eq_true,decide_eq_true_eq];omega
theorem b2r (h1:a<=b)(h2:b<=n):inI (a:Int) (b:Int) n=true:=by simp only[inI,Bool.and_eq_true,decide_eq_true_eq];omega
theorem ltN (a b:Nat):ltB (a:Int) (b:Int)=decide (a<b):=by simp only[ltB];congr 1;simp
theorem leN_ (a b:Nat):leB (a:Int) (b:Int)=decide (a<=b):=by simp only[leB];congr 1;simp
theorem b2u (h:a<=b):leN a b=true:=by simp[leN,h]
theorem a3O (h:a=b):eqN a b=true:=by simp[eqN,h]
theorem c5m {T:List (Nat×Ty)}(h1:K9 t T=some y)(h2:K9 xt T=some yx)(h3:y.sh=.slice e)(h4:a9r yx.sh=true)(h5:K9 e T=some ye)
  (h6:a6M T e x H=some (m,news)) (h7:Nat.beq m 0=false) (h8:hget g H=some (.tip w n)) (h9:w=0∨w=ye.size) (h10:Nat.beq ye.size 0=false) (h11:n*ye.size=cs.length) (h12:(n+m)*(ye.bytes+1)<=70368744177664) :
  a5g T t xt (.slice (.tag g) n cs) x H k=some (.val (.slice (.tag g) (n+m) (cs++news)) (hset g (.tip ye.size (n+m)) H)):=by
 have hw:(Nat.beq w 0||Nat.beq w ye.size)=true:=by rcases h9 with rfl|rfl<;>simp
 simp only[a5g,h1,h2,h3,h4,h5,h6,h7,h8,hw,h10,a3O rfl,a3O h11,b2u h12,Bool.not_false,Bool.and_self,gd]
theorem a1n {a:Operand}{v:V}(hw:E5 ops o fr=some true)(ho:o.op=.load t a)(ha:ev fr a=some x)(hl:a4c env.T t x H=some v)(h:Os env orc ops rest (V9 o.dst v fr) H K):Os env orc ops (o::rest) fr H K:=by
 have hp:O1 o.op=false:=by rw[ho];rfl
 refine a2l hw hp (v:=v) (H1:=H) ?_ h;unfold V5;rw[ho];simp only[ha,hl]
theorem b3l {c:Operand}{v:V}(hw:E5 ops o fr=some true)(ho:o.op=.convert a b c)(ha:ev fr c=some x)(hl:b44 env.T a b x=some v)(h:Os env orc ops rest (V9 o.dst v fr) H K):Os env orc ops (o::rest) fr H K:=by
 have hp:O1 o.op=true:=by rw[ho];rfl
 refine a4L hw hp (v:=v) ?_ h;rw[ho];simp only[a0j,ha,hl]
theorem b4p:∀l:List UInt8,a5f (a06 l)=some l
 | []=>rfl
 | b::r=>by
  have:=b4p r;simp only[a06,List.map_cons]at this ⊢;simp only[a5f,this];congr 2;simp
theorem half {x:Nat}(h:x<9223372036854775808):a3P (gd (!eqB (2:Int) 0) (some (.int .i64 (IntKind.wrap .i64 ((x:Int).tdiv 2)))))=some (.int .i64 ((x/2:Nat):Int)):=by
 have:(x:Int).tdiv 2 =((x/2:Nat):Int):=by rw[Int.tdiv_eq_ediv_of_nonneg (by omega)];omega
 rw[this,wrap64 (by omega) (by omega)];have:(!eqB (2:Int) 0)=true:=by simp[eqB]
 rw[this];rfl
theorem a8x {n':Nat}{cs':List V}{args:Array Operand}{a b:Operand}(hw:E5 ops o fr=some true)(ho:o.op=.call ⟨.builtin .append,args,at_⟩)
  (ha:args.toList=[a,b]) (ht:at_.toList=[t,xt]) (hs:ev fr a=some (.slice (.tag g) n cs)) (hx:ev fr b=some x)
  (h1:K9 t env.T=some y) (h2:K9 xt env.T=some yx) (h3:y.sh=.slice e) (h4:a9r yx.sh=true) (h5:K9 e env.T=some ye)
  (h6:a6M env.T e x H=some (m,news)) (h7:Nat.beq m 0=false) (h8:hget g H=some (.tip w n)) (h9:w=0∨w=ye.size) (h10:Nat.beq ye.size 0=false) (h11:n*ye.size=cs.length) (h12:(n+m)*(ye.bytes+1)<=70368744177664)
  (hn:n+m=n') (hcs:cs++news=cs') (hH:a0O (some (hset g (.tip ye.size n') H))=some H1)
  (h:Os env orc ops rest (V9 o.dst (.slice (.tag g) n' cs') fr) H1 K):Os env orc ops (o::rest) fr H K:=by
 have hp:O1 o.op=false:=by rw[ho];rfl
 rw[a2P,Option.some.injEq]at hH;subst hH hn hcs;refine a2l hw hp ?_ h;unfold V5;rw[ho];simp only[ha,ht,hs,hx];exact c5m h1 h2 h3 h4 h5 h6 h7 h8 h9 h10 h11 h12
def Lp (env:Env)(f nr:Nat)(body:Code)(fr:Fr)(H:Hp)(K:Res->Prop):Prop:=∃r,E env (.loop f nr body fr) H=some (.res r)/\K r
def a8Z (env:Env)(f nr:Nat)(body:Code)(K:Res->Prop):Res->Prop |(.normal,fr,H)=>∃fr1 H1,normal env f nr (a1G body) fr H=some (fr1,H1)/\Lp env f nr body fr1 H1 K|r=>K r
theorem c2t (h:Ev env (E env) f nr body fr H (a8Z env f nr body K)):Lp env f nr body fr H K:=by
 obtain⟨⟨e,fr1,H1⟩,h1,h2⟩:=h;cases e with
 | normal =>
  obtain⟨fr2,H2,h3,r,h4,h5⟩:=h2;exact⟨r,b9W (by simp only[a7n,h1,h3];exact h4),h5⟩
 | ret=>exact⟨_,b9W (by simp only[a7n,h1]),h2⟩
 | exit i=>exact⟨_,b9W (by simp only[a7n,h1]),h2⟩
 | panic v=>exact⟨_,b9W (by simp only[a7n,h1]),h2⟩
theorem a5D (hn:normal env f nr (a1G body) fr H=some (fr1,H1))(h:Lp env f nr body fr1 H1 K):Ev env (E env) f nr (.loop body) fr H K:=by
 obtain⟨r,h1,h2⟩:=h;exact⟨r,by simp only[E8,hn,h1],h2⟩
theorem Lp.mono {K K':Res->Prop}(h:Lp env f nr body fr H K)(hk:∀r,K r->K' r):Lp env f nr body fr H K':=by
 obtain⟨r,h1,h2⟩:=h;exact⟨r,h1,hk r h2⟩
theorem a0P {v1:V}{H2:Hp}(hi:env.intr g=none)(hf:env.P.funcs[g]? = some fn)(hok:env.ok g=true)(hb:fn.body=some c)
  (h:Ev env (E env) g H.length c (a3f 0 args) H (RetK env H.length fn.results.toList (env.frz g) (env.tags g) (env.b3E g) v1 H2)):E env (.call g args) H=some (.ret v1 H2) :=
 E_call hi (c0Z hf hok hb h)
theorem D5 {out:Out}(hi:env.intr g=none)(hf:env.P.funcs[g]? = some fn)(hok:env.ok g=true)(hb:fn.body=some c)
  (h:Ev env (E env) g H.length c (a3f 0 args) H (a2e env g H.length fn.results.toList out)):E env (.call g args) H=some out :=
 E_call hi (run_out hf hok hb h)
def RetP (env:Env)(nr:Nat)(l:List ResultVar)(fz tg:Bool)(m:Nat->Bool)(P:V->Hp->Prop):Res->Prop |(.ret,fr,H1) |(.normal,fr,H1)=>∃v v1 H2,a7m env.T fr H1 l=some v/\finT fz tg m nr v H1=some (v1,H2)/\P v1 H2|_=>False
theorem b49 {P:V->Hp->Prop}(hi:env.intr g=none)(hf:env.P.funcs[g]? = some fn)(hok:env.ok g=true)(hb:fn.body=some c)
  (h:Ev env (E env) g H.length c (a3f 0 args) H (RetP env H.length fn.results.toList (env.frz g) (env.tags g) (env.b3E g) P)):∃v H2,E env (.call g args) H=some (.ret v H2)/\P v H2:=by
 obtain⟨⟨e,fr1,H1⟩,h1,h2⟩:=h;cases e with
 | normal =>
  obtain⟨v,v1,H2,h3,h4,h5⟩:=h2;exact⟨v1,H2,a0P hi hf hok hb ⟨_,h1,v,h3,h4⟩,h5⟩
 | ret =>
  obtain⟨v,v1,H2,h3,h4,h5⟩:=h2;exact⟨v1,H2,a0P hi hf hok hb ⟨_,h1,v,h3,h4⟩,h5⟩
 | exit i=>exact h2.elim
 | panic v=>exact h2.elim
theorem a8N {σ:Type}(F:σ->Fr)(G:σ->Hp)(P:σ->Prop)(μ:σ->Nat)(i:σ)(hP:P i)
  (round:∀j,P j ->(∀j',μ j'<μ j->P j'->Lp env f nr body (F j') (G j') K)->Ev env (E env) f nr body (F j) (G j) (a8Z env f nr body K)):Lp env f nr body (F i) (G i) K:=by
 have key:∀m j,μ j=m->P j->Lp env f nr body (F j) (G j) K:=by
  intro m;induction m using Nat.strongRecOn with
  | _ m ih =>
   intro j hj hp;exact c2t (round j hp fun j' hlt hp'=>ih (μ j') (by omega) j' rfl hp')
 exact key _ i rfl hP
end
variable {α:Type} {ops:Array Oper} {fz tg:Bool} {a b:Fr} {l:List ResultVar} {k:Nat} {m:Nat->Bool} {o:Oper} {r:Option Res} {v:V}
def Off (D:List Nat)(fr fr':Fr):Prop:=∀s,has s D=false->look s fr=look s fr'
theorem Off.refl {D:List Nat}{fr:Fr}:Off D fr fr:=fun _ _=>rfl
theorem Off.symm {D:List Nat}{fr fr':Fr}(h:Off D fr fr'):Off D fr' fr:=fun s hs=>(h s hs).symm
theorem Off.trans {D:List Nat}{c:Fr}(h:Off D a b)(g:Off D b c):Off D a c:=fun s hs=>(h s hs).trans (g s hs)
theorem Off.left {D:List Nat}(hk:has k D=true)(h:Off D a b):Off D ((k,v)::a) b:=by
 intro s hs;simp only[look];cases hb:Nat.beq k s with
 | true=>have:=Nat.eq_of_beq_eq_true hb;subst this;rw[hk]at hs;cases hs
 | false=>exact h s hs
theorem Off.right {D:List Nat}(hk:has k D=true)(h:Off D a b):Off D a ((k,v)::b):=(Off.left hk h.symm).symm
theorem Off.both {D:List Nat}(h:Off D a b):Off D ((k,v)::a) ((k,v)::b):=by
 intro s hs;simp only[look];cases Nat.beq k s with
 | true=>rfl
 | false=>exact h s hs
def b0e (D:List Nat):Operand->Bool | .tmp t=>!has t D|_=>true
def offL (D:List Nat)(l:List Operand):Bool:=l.all (b0e D)
def offP (D:List Nat)(l:List (Nat×Operand)):Bool:=l.all fun p=>b0e D p.2
def offX (D:List Nat)(o:Option Operand):Bool:=match o with|none=>true|some x=>b0e D x
def b5V (D:List Nat):Op->Bool
 | .move x | .assign x | .nilCheck x | .unOp _ _ x | .convert _ _ x | .makeInterface _ x | .fieldAddr _ x _ | .field _ x _ | .typeAssert x .. | .extract x _ | .load _ x | .box _ x | .panic x=>b0e D x
 | .pick a b c=>b0e D a&&b0e D b&&b0e D c
 | .build _ ps | .buildSlice _ _ ps=>offP D ps.toList
 | .binOp _ _ x y _ | .indexAddr _ x y | .index _ x y | .store _ x y | .makeSlice _ x y | .lookup _ x y _=>b0e D x&&b0e D y
 | .mapUpdate _ x y z | .insert _ x y z=>b0e D x&&b0e D y&&b0e D z
 | .makeMap _ (some r)=>b0e D r
 | .makeFunc _ a b=>offL D a.toList&&offL D b.toList
 | .slice _ x lo hi mx=>b0e D x&&offX D lo&&offX D hi&&offX D mx
 | .alloc _ | .makeMap _ none=>true
 | .call c=>offL D c.args.toList&&(match c.callee with | .value f=>b0e D f | .invoke r _=>b0e D r|_=>true)
 | _=>false
section
variable {D:List Nat} {fr fr':Fr}
theorem U0 (h:Off D fr fr'){o:Operand}(ho:b0e D o=true):ev fr o=ev fr' o:=by
 cases o with
 | tmp t=>simp only[b0e,Bool.not_eq_true']at ho;simp only[ev,h t ho]
 | _=>rfl
theorem b4A (h:Off D fr fr'):∀{l:List Operand},offL D l=true->evL fr l=evL fr' l
 | [],_=>rfl
 | o::l,ho=>by
  simp only[offL,List.all_cons,Bool.and_eq_true]at ho;have:=b4A h (l:=l) ho.2;simp only[evL,a1m]at this ⊢;rw[U0 h ho.1,this]
theorem c0g (h:Off D fr fr'):∀{l:List (Nat×Operand)},offP D l=true->evP fr l=evP fr' l
 | [],_=>rfl
 | o::l,ho=>by
  simp only[offP,List.all_cons,Bool.and_eq_true]at ho;have:=c0g h (l:=l) ho.2;simp only[evP,a1m]at this ⊢;rw[U0 h ho.1,this]
theorem c0h (h:Off D fr fr'){o:Option Operand}(ho:offX D o=true):evX fr o=evX fr' o:=by
 cases o with
 | none=>rfl
 | some x=>simp only[evX,U0 h (o:=x) ho]
theorem c7Z (h:Off D fr fr'){T:List (Nat×Ty)}{o:Op}(ho:b5V D o=true):a0j T fr o=a0j T fr' o:=by
 cases o<;>simp only[b5V,Bool.and_eq_true]at ho<;>try rfl
 case move x=>simp only[a0j,U0 h ho]
 case assign x=>simp only[a0j,U0 h ho]
 case nilCheck x=>simp only[a0j,U0 h ho]
 case unOp x=>simp only[a0j,U0 h ho]
 case convert x=>simp only[a0j,U0 h ho]
 case makeInterface x=>simp only[a0j,U0 h ho]
 case fieldAddr x _=>simp only[a0j,U0 h ho]
 case field x _=>simp only[a0j,U0 h ho]
 case typeAssert x _ _ _=>simp only[a0j,U0 h ho]
 case extract x _=>simp only[a0j,U0 h ho]
 case pick=>simp only[a0j,U0 h ho.1.1,U0 h ho.1.2,U0 h ho.2]
 case build=>simp only[a0j,c0g h ho]
 case buildSlice=>simp only[a0j,c0g h ho]
 case binOp=>simp only[a0j,U0 h ho.1,U0 h ho.2]
 case indexAddr=>simp only[a0j,U0 h ho.1,U0 h ho.2]
 case index=>simp only[a0j,U0 h ho.1,U0 h ho.2]
 case makeFunc=>simp only[a0j,b4A h ho.1,b4A h ho.2]
 case slice=>simp only[a0j,U0 h ho.1.1.1,c0h h ho.1.1.2,c0h h ho.1.2,c0h h ho.2]
 case call c =>
  obtain⟨callee,args,at_⟩:=c;cases callee with
  | builtin b =>
   cases b<;>try rfl
   case len =>
    simp only[a0j];generalize hl:args.toList=l at ho;generalize at_.toList=ts;match l,ts with
    | [x],t::_=>simp only[offL,List.all_cons,Bool.and_eq_true]at ho;simp only[U0 h ho.1.1]
    | [],_=>rfl
    | _::_::_,_=>rfl
    | [_],[]=>rfl
   case min =>
    simp only[a0j];generalize hl:args.toList=l at ho;match l with
    | [x,y]=>simp only[offL,List.all_cons,Bool.and_eq_true]at ho;simp only[U0 h ho.1.1,U0 h ho.1.2.1]
    | []=>rfl
    | [_]=>rfl
    | _::_::_::_=>rfl
   case max =>
    simp only[a0j];generalize hl:args.toList=l at ho;match l with
    | [x,y]=>simp only[offL,List.all_cons,Bool.and_eq_true]at ho;simp only[U0 h ho.1.1,U0 h ho.1.2.1]
    | []=>rfl
    | [_]=>rfl
    | _::_::_::_=>rfl
  | _=>rfl
theorem c4w {env:Env}{orc:Orc}{H:Hp}(h:Off D fr fr')(ho:b5V D o.op=true):O0 env orc fr H o=O0 env orc fr' H o:=by
 unfold O0 V5 newName;generalize o.dst=dst;generalize o.op=op at ho;rw[c7Z h ho];cases hp:O1 op with
 | true=>rfl
 | false =>
  simp only;cases op<;>simp only[b5V,Bool.and_eq_true]at ho<;>try rfl
  case makeMap t r =>
   cases r with
   | none=>rfl
   | some r=>simp only[U0 h (o:=r) (by simpa [b5V]using ho)]
  case lookup=>simp only[U0 h ho.1,U0 h ho.2]
  case mapUpdate=>simp only[U0 h ho.1.1,U0 h ho.1.2,U0 h ho.2]
  case insert=>simp only[U0 h ho.1.1,U0 h ho.1.2,U0 h ho.2]
  case load=>simp only[U0 h ho]
  case box=>simp only[U0 h ho]
  case panic=>simp only[U0 h ho]
  case store=>simp only[U0 h ho.1,U0 h ho.2]
  case makeSlice=>simp only[U0 h ho.1,U0 h ho.2]
  case call c =>
   obtain⟨callee,args,at_⟩:=c;cases callee with
   | builtin b =>
    cases b<;>try rfl
    case append =>
     simp only;generalize hl:args.toList=l at ho;generalize at_.toList=ts;match l,ts with
     | [x,y],[t,u]=>simp only[offL,List.all_cons,Bool.and_eq_true]at ho;simp only[U0 h ho.1.1,U0 h ho.1.2.1]
     | [],_=>rfl
     | [_],_=>rfl
     | _::_::_::_,_=>rfl
     | [_,_],[]=>rfl
     | [_,_],[_]=>rfl
     | [_,_],_::_::_::_=>rfl
    case copy =>
     simp only;generalize hl:args.toList=l at ho;generalize at_.toList=ts;match l,ts with
     | [x,y],[t,u]=>simp only[offL,List.all_cons,Bool.and_eq_true]at ho;simp only[U0 h ho.1.1,U0 h ho.1.2.1]
     | [],_=>rfl
     | [_],_=>rfl
     | _::_::_::_,_=>rfl
     | [_,_],[]=>rfl
     | [_,_],[_]=>rfl
     | [_,_],_::_::_::_=>rfl
   | value f=>simp only[U0 h ho.2,b4A h ho.1]
   | invoke r m=>simp only[U0 h ho.2,b4A h ho.1]
def a9t (D:List Nat)(ops:Array Oper)(o:Oper):Bool:=b5V D o.op&&(match o.guard with|none=>true|some (j,_)=>match (ops[j]?).bind (·.dst)with|some t=>!has t D|none=>true)
theorem c3h (h:Off D fr fr')(ho:a9t D ops o=true):E5 ops o fr=E5 ops o fr':=by
 simp only[a9t,Bool.and_eq_true]at ho;unfold E5;cases hg:o.guard with
 | none=>rfl
 | some x =>
  obtain⟨j,w⟩:=x;have h2:=ho.2;rw[hg]at h2;simp only at h2 ⊢;unfold b25;cases hd:(ops[j]?).bind (·.dst)with
  | none=>rfl
  | some t =>
   rw[hd]at h2;simp only[Bool.not_eq_true']at h2;simp only[h t h2]
theorem Off.put (h:Off D fr fr'){d:Option Nat}:Off D (V9 d v fr) (V9 d v fr'):=by
 cases d with
 | none=>exact h
 | some d=>exact h.both
def OffR (D:List Nat):Option Res->Option Res->Prop|none,none=>True|some (e,fr,H),some (e',fr',H')=>e=e'/\H=H'/\Off D fr fr'|_,_=>False
theorem OffR.refl:OffR D r r:=by
 cases r with
 | none=>trivial
 | some r=>exact⟨rfl,rfl,.refl⟩
theorem b2o {env:Env}{orc:Orc}{ops:Array Oper}:∀{l:List Oper} {fr fr':Fr} {H:Hp},Off D fr fr'->l.all (a9t D ops)=true->OffR D (J5 env orc ops l fr H) (J5 env orc ops l fr' H)
 | [],fr,fr',H,h,_=>⟨rfl,rfl,h⟩
 | o::l,fr,fr',H,h,ho=>by
  simp only[List.all_cons,Bool.and_eq_true]at ho;have h2:b5V D o.op=true:=by have:=ho.1;simp only[a9t,Bool.and_eq_true]at this;exact this.1
  simp only[J5];rw[c3h h ho.1,c4w h h2];cases E5 ops o fr' with
  | none=>trivial
  | some b =>
   cases b with
   | false=>exact b2o h.put ho.2
   | true =>
    cases O0 env orc fr' H o with
    | none=>trivial
    | some r =>
     cases r with
     | val v H1=>exact b2o h.put ho.2
     | pan v H1=>exact⟨rfl,rfl,h⟩
def b4b (env:Env)(f:Nat)(D:List Nat):Code->Bool | .region id ops d=>!isSome (b3S env f id d)&&ops.toList.all (a9t D ops) | .seq a b=>!env.cut f (a3b b)&&b4b env f D a&&b4b env f D b | .cond c a b=>b0e D c&&b4b env f D a&&b4b env f D b | .block _ c=>b4b env f D c | .loop body=>!isSome (env.ice f (a1G body))&&(env.keep f (a1G body)).all fun s=>!has s D | .skip | .label _ | .exit _ | .ret=>true|_=>false
theorem b7y {env:Env}{f nr lp:Nat}{H:Hp}(h:Off D fr fr')(hk:(!isSome (env.ice f lp)&&(env.keep f lp).all fun s=>!has s D)=true):normal env f nr lp fr H=normal env f nr lp fr' H:=by
 simp only[Bool.and_eq_true,Bool.not_eq_true']at hk;obtain⟨hi,hk⟩:=hk;have hi:env.ice f lp=none:=by
  cases hq:env.ice f lp with
  | none=>rfl
  | some x=>rw[hq]at hi;cases hi
 have:((env.keep f lp).map fun s=>(s,look s fr)) =((env.keep f lp).map fun s=>(s,look s fr')):=by
  apply List.map_congr_left;intro s hs;have:=List.all_eq_true.1 hk s hs;rw[h s (by simpa using this)]
 unfold normal;rw[hi];simp only;unfold b4J;rw[this]
theorem c7d {b:Bool}(hc:ops.toList.all (a9t D ops)=true){r':Option Res}(h:OffR D r r'):OffR D (a7y b ops r) (a7y b ops r'):=by
 cases b with
 | false=>exact h
 | true =>
  cases r with
  | none =>
   cases r' with
   | none=>trivial
   | some r'=>exact h.elim
  | some r =>
   cases r' with
   | none=>exact h.elim
   | some r' =>
    obtain⟨e,g,H1⟩:=r;obtain⟨e',g',H1'⟩:=r';obtain⟨rfl,rfl,h3⟩:=h;cases e with
    | normal =>
     have he:((a3e ops.toList).all fun t=>a8M (look t g)) =((a3e ops.toList).all fun t=>a8M (look t g')):=by
      have key:∀l:List Oper,l.all (a9t D ops)=true ->((a3e l).all fun t=>a8M (look t g)) =((a3e l).all fun t=>a8M (look t g')):=by
       intro l;induction l with
       | nil=>intro _;rfl
       | cons o l ih =>
        intro hl;simp only[List.all_cons,Bool.and_eq_true]at hl;simp only[a3e];cases ht:a3S o with
        | none=>exact ih hl.2
        | some t =>
         simp only[List.all_cons];rw[ih hl.2];have h4:has t D=false:=by
          have h5:=hl.1;simp only[a9t,Bool.and_eq_true]at h5;unfold a3S at ht;split at ht
          ·rename_i ty t' hop;cases ht;have h6:=h5.1;rw[hop]at h6;simpa [b5V,b0e]using h6
          ·cases ht
         rw[h3 t h4]
      exact key _ hc
     simp only[a7y,he];cases(a3e ops.toList).all fun t=>a8M (look t g')with
     | true=>exact⟨rfl,rfl,h3⟩
     | false=>trivial
    | ret=>trivial
    | exit i=>trivial
    | panic v=>trivial
theorem c0j {env:Env}{orc:Orc}{f nr:Nat}:∀{c:Code} {fr fr':Fr} {H:Hp},Off D fr fr'->b4b env f D c=true->OffR D (E8 env orc f nr c fr H) (E8 env orc f nr c fr' H):=by
 intro c;induction c with
 | region id ops d =>
  intro fr fr' H h hc;simp only[b4b,Bool.and_eq_true,Bool.not_eq_true']at hc;obtain⟨hs,hc⟩:=hc;have hs2:b3S env f id d=none:=by
   cases hq:b3S env f id d with
   | none=>rfl
   | some x=>rw[hq]at hs;cases hs
  simp only[E8,hs2];refine c7d hc ?_;have:=b2o (env:=env) (orc:=orc) (ops:=ops) (H:=H) h hc;revert this;cases J5 env orc ops ops.toList fr H with
  | none =>
   cases J5 env orc ops ops.toList fr' H with
   | none=>intro _;trivial
   | some r=>intro h;exact h.elim
  | some r =>
   cases J5 env orc ops ops.toList fr' H with
   | none=>intro h;exact h.elim
   | some r' =>
    obtain⟨e,g,H1⟩:=r;obtain⟨e',g',H1'⟩:=r';rintro⟨rfl,rfl,h3⟩;cases e with
    | panic v=>cases d with
     | true=>trivial
     | false=>exact⟨rfl,rfl,h3⟩
    | _=>exact⟨rfl,rfl,h3⟩
 | seq a b iha ihb =>
  intro fr fr' H h hc;simp only[b4b,Bool.and_eq_true,Bool.not_eq_true']at hc;simp only[E8,cutAt,hc.1.1];have:=iha (H:=H) h hc.1.2;revert this;cases E8 env orc f nr a fr H with
  | none =>
   cases E8 env orc f nr a fr' H with
   | none=>intro _;trivial
   | some r=>intro h;exact h.elim
  | some r =>
   cases E8 env orc f nr a fr' H with
   | none=>intro h;exact h.elim
   | some r' =>
    obtain⟨e,g,H1⟩:=r;obtain⟨e',g',H1'⟩:=r';rintro⟨rfl,rfl,h3⟩;cases e with
    | normal=>exact ihb h3 hc.2
    | _=>exact⟨rfl,rfl,h3⟩
 | cond c a b iha ihb =>
  intro fr fr' H h hc;simp only[b4b,Bool.and_eq_true]at hc;simp only[E8];rw[U0 h hc.1.1];cases ev fr' c with
  | none=>trivial
  | some v =>
   cases v with
   | bool t=>cases t with
    | true=>exact iha h hc.1.2
    | false=>exact ihb h hc.2
   | _=>trivial
 | block id a iha =>
  intro fr fr' H h hc;simp only[b4b]at hc;simp only[E8];have:=iha (H:=H) h hc;revert this;cases E8 env orc f nr a fr H with
  | none =>
   cases E8 env orc f nr a fr' H with
   | none=>intro _;trivial
   | some r=>intro h;exact h.elim
  | some r =>
   cases E8 env orc f nr a fr' H with
   | none=>intro h;exact h.elim
   | some r' =>
    obtain⟨e,g,H1⟩:=r;obtain⟨e',g',H1'⟩:=r';rintro⟨rfl,rfl,h3⟩;cases e with
    | exit i =>
     simp only;cases Nat.beq i id with
     | true=>exact⟨rfl,rfl,h3⟩
     | false=>exact⟨rfl,rfl,h3⟩
    | _=>exact⟨rfl,rfl,h3⟩
 | loop a iha =>
  intro fr fr' H h hc;simp only[b4b]at hc;simp only[E8];rw[b7y h hc];exact .refl
 | skip=>intro fr fr' H h _;exact⟨rfl,rfl,h⟩
 | label=>intro fr fr' H h _;exact⟨rfl,rfl,h⟩
 | exit=>intro fr fr' H h _;exact⟨rfl,rfl,h⟩
 | ret=>intro fr fr' H h _;exact⟨rfl,rfl,h⟩
 | _=>intro fr fr' H h hc;cases hc
section
variable {env:Env} {orc:Orc} {f nr:Nat} {H H1:Hp} {K:Res->Prop}
def b47 (D:List Nat)(K:Res->Prop):Prop:=∀e g g' H,Off D g g'->K (e,g,H)->K (e,g',H)
theorem b8Z {c:Code}(D:List Nat)(hc:b4b env f D c=true)(hK:b47 D K){fr fr':Fr}(ho:Off D fr' fr)(h:Ev env orc f nr c fr' H K):Ev env orc f nr c fr H K:=by
 obtain⟨⟨e,g,H1⟩,h1,h2⟩:=h;have:=c0j (env:=env) (orc:=orc) (nr:=nr) (H:=H) ho hc;rw[h1]at this;revert this;cases hq:E8 env orc f nr c fr H with
 | none=>intro h;exact h.elim
 | some r =>
  obtain⟨e',g',H1'⟩:=r;rintro⟨rfl,rfl,h3⟩;exact⟨_,hq,hK _ _ _ _ h3 h2⟩
theorem c7F {b:Code}(hb:b4b env f D b=true)(hK:b47 D K):b47 D (thenK env orc f nr b K):=by
 intro e g g' H ho h;cases e with
 | normal=>exact b8Z D hb hK ho h
 | _=>exact hK _ _ _ _ ho h
theorem c4P {id:Nat}(hK:b47 D K):b47 D (b9Z id K):=by
 intro e g g' H ho h;cases e with
 | exit i =>
  simp only[b9Z]at h ⊢;cases hb:Nat.beq i id with
  | true=>rw[hb]at h;exact hK _ _ _ _ ho h
  | false=>rw[hb]at h;exact hK _ _ _ _ ho h
 | _=>exact hK _ _ _ _ ho h
theorem c4Q {body:Code}(hk:(!isSome (env.ice f (a1G body))&&(env.keep f (a1G body)).all fun s=>!has s D)=true)(hK:b47 D K):b47 D (a8Z env f nr body K):=by
 intro e g g' H ho h;cases e with
 | normal =>
  obtain⟨fr1,H1,h1,h2⟩:=h;exact⟨fr1,H1,by rw[<-b7y ho hk];exact h1,h2⟩
 | _=>exact hK _ _ _ _ ho h
def b7z (D:List Nat)(l:List ResultVar):Bool:=l.all fun | .tmp t=>!has t D | .cell t _=>!has t D
theorem a9x {T:List (Nat×Ty)}(h:Off D fr fr')(hl:b7z D l=true):a7m T fr H l=a7m T fr' H l:=by
 have:∀{l:List ResultVar},b7z D l=true->a1m (b6b T fr H) l=a1m (b6b T fr' H) l:=by
  intro l;induction l with
  | nil=>intro _;rfl
  | cons r l ih =>
   intro hl;simp only[b7z,List.all_cons,Bool.and_eq_true]at hl;have h1:b6b T fr H r=b6b T fr' H r:=by
    cases r with
    | tmp t=>simp only[b6b,h t (by simpa using hl.1)]
    | cell t _=>simp only[b6b,h t (by simpa using hl.1)]
   simp only[a1m];rw[h1,ih hl.2]
 unfold a7m;rw[this hl]
theorem resp_ret {v1:V}{H2:Hp}(hl:b7z D l=true):b47 D (RetK env nr l fz tg m v1 H2):=by
 intro e g g' H ho h;cases e with
 | normal=>obtain⟨v,h1,h2⟩:=h;exact⟨v,by rw[<-a9x ho hl];exact h1,h2⟩
 | ret=>obtain⟨v,h1,h2⟩:=h;exact⟨v,by rw[<-a9x ho hl];exact h1,h2⟩
 | _=>exact h
theorem c7E {P:V->Hp->Prop}(hl:b7z D l=true):b47 D (RetP env nr l fz tg m P):=by
 intro e g g' H ho h;cases e with
 | normal=>obtain⟨v,v1,H2,h1,h2⟩:=h;exact⟨v,v1,H2,by rw[<-a9x ho hl];exact h1,h2⟩
 | ret=>obtain⟨v,v1,H2,h1,h2⟩:=h;exact⟨v,v1,H2,by rw[<-a9x ho hl];exact h1,h2⟩
 | _=>exact h
def joinK {α:Type}(D:List Nat)(F:α->Fr)(G:α->Hp)(Q:α->Prop)(K:Res->Prop):Res->Prop |(.normal,g,H)=>∃x,Q x/\Off D (F x) g/\H=G x|r=>K r
theorem ev_join {a b:Code}{fr:Fr}(D:List Nat)(F:α->Fr->Fr)(G:α->Hp->Hp)(Q:α->Prop)(hb:b4b env f D b=true)(hK:b47 D K)
  (h1:Ev env orc f nr a fr H (joinK D (fun x=>F x fr) (fun x=>G x H) Q K)) (h2:∀x,Q x->Ev env orc f nr b (F x fr) (G x H) K) (hcu:env.cut f (a3b b)=false:=by rfl):Ev env orc f nr (.seq a b) fr H K:=by
 refine F7 ?_ hcu;obtain⟨⟨e,g,H1⟩,h3,h4⟩:=h1;refine⟨_,h3,?_⟩;cases e with
 | normal =>
  obtain⟨x,hx,ho,rfl⟩:=h4;exact b8Z D hb hK ho (h2 x hx)
 | _=>exact h4
theorem ev_joinF {a b:Code}{fr:Fr}(D:List Nat)(F:α->Fr->Fr)(Q:α->Prop)(hb:b4b env f D b=true)(hK:b47 D K)
  (h1:Ev env orc f nr a fr H (joinK D (fun x=>F x fr) (fun _=>H) Q K)) (h2:∀x,Q x->Ev env orc f nr b (F x fr) H K) (hcu:env.cut f (a3b b)=false:=by rfl):Ev env orc f nr (.seq a b) fr H K :=
 ev_join D F (fun _ H=>H) Q hb hK h1 h2 hcu
theorem c7D {D D':List Nat}{F:α->Fr}{G:α->Hp}{Q:α->Prop}(hD:(D'.all fun s=>has s D)=true)(hK:b47 D' K):b47 D' (joinK D F G Q K):=by
 intro e g g' H ho h;have hs:∀{s},has s D=false->has s D'=false:=by
  intro s hs;have key:∀l:List Nat,has s l=true ->(l.all fun s=>has s D)=true->has s D=true:=by
   intro l;induction l with
   | nil=>intro h;cases h
   | cons a l ih =>
    intro h1 h2;simp only[List.all_cons,Bool.and_eq_true]at h2;simp only[has]at h1;cases hb:Nat.beq a s with
    | true=>have:=Nat.eq_of_beq_eq_true hb;subst this;exact h2.1
    | false=>rw[hb]at h1;exact ih h1 h2.2
  cases h3:has s D' with
  | false=>rfl
  | true=>rw[key D' h3 hD]at hs;cases hs
 cases e with
 | normal =>
  obtain⟨x,hx,h1,h2⟩:=h;exact⟨x,hx,fun s h3=>(h1 s h3).trans (ho s (hs h3)),h2⟩
 | _=>exact hK _ _ _ _ ho h
theorem Off.noop {D:List Nat}(hl:look k b=v)(h:Off D a b):Off D ((k,v)::a) b:=by
 intro s hs;simp only[look];cases hb:Nat.beq k s with
 | true=>have:=Nat.eq_of_beq_eq_true hb;subst this;exact hl.symm
 | false=>exact h s hs
end
end
section
variable {env:Env} {orc:Orc} {ops:Array Oper} {o:Oper} {rest:List Oper} {fr:Fr} {H H1:Hp} {K:Res->Prop}
end
end Go.Vm
namespace Go.Vm
variable {args:Array Operand} {at_:Array TypeId} {i j:Int} {k:IntKind} {L sl:List Nat} {c l:List V} {bytes d e g t xt:Nat} {a b:Operand} {hi lo:Option Operand} {h' l':Option V} {y ye yx z:Ty} {v:V}
abbrev Str:=List UInt8
variable {s x:Str}
inductive Rs (α β:Type) where
 | ok (a:α)
 | pan (b:β)
inductive Lr (α ρ:Type) where
 | brk (a:α)
 | out (r:ρ)
section
variable {α β γ δ ρ:Type}
def p9 (o:Option (Rs α β))(k:α->Option γ)(p:β->Option γ):Option γ:=match o with
 | none=>none
 | some (.ok a)=>k a
 | some (.pan b)=>p b
def a0X (o:Option (Lr α ρ))(k:α->Option ρ):Option ρ:=match o with
 | none=>none
 | some (.brk a)=>k a
 | some (.out r)=>some r
def a7T (o:Option (Lr α ρ))(k:α->Option (Lr γ ρ)):Option (Lr γ ρ):=match o with
 | none=>none
 | some (.brk a)=>k a
 | some (.out r)=>some (.out r)
theorem a4d {o:Option α}{k:α->Option γ}{r:γ}(h:o.bind k=some r):∃x,o=some x/\k x=some r:=by
 cases o with
 | none=>cases h
 | some x=>exact⟨x,rfl,h⟩
theorem c6J {o:Option (Rs α β)}{k:α->Option γ}{p:β->Option γ}{r:γ}(h:p9 o k p=some r):(∃a,o=some (.ok a)/\k a=some r) ∨ ∃b,o=some (.pan b)/\p b=some r:=by
 cases o with
 | none=>cases h
 | some x=>cases x with
  | ok a=>exact .inl ⟨a,rfl,h⟩
  | pan b=>exact .inr ⟨b,rfl,h⟩
theorem c6I {o:Option (Lr α ρ)}{k:α->Option ρ}{r:ρ}(h:a0X o k=some r):∃y,o=some y/\(match y with | .brk a=>k a | .out r'=>some r')=some r:=by
 cases o with
 | none=>cases h
 | some x=>cases x with
  | brk a=>exact⟨_,rfl,h⟩
  | out b=>exact⟨_,rfl,h⟩
theorem c6K {o:Option (Lr α ρ)}{k:α->Option (Lr γ ρ)}{r:Lr γ ρ}(h:a7T o k=some r):∃y,o=some y/\(match y with | .brk a=>k a | .out r'=>some (.out r'))=some r:=by
 cases o with
 | none=>cases h
 | some x=>cases x with
  | brk a=>exact⟨_,rfl,h⟩
  | out b=>exact⟨_,rfl,h⟩
def idx' (l:List α)(i:Int):Option α:=match inR i l.length with
 | true=>l[i.toNat]?
 | false=>none
def idxS (s:Str)(i:Int):Option Int:=match inR i s.length with
 | true=>some ((s.getD i.toNat 0).toNat:Nat)
 | false=>none
def subS (s:Str)(a b:Int):Option Str:=match inI a b s.length with
 | true=>some ((s.take b.toNat).drop a.toNat)
 | false=>none
def b2Y (l:List α)(a b:Int):Option (List α):=match inI a b l.length with
 | true=>some ((l.take b.toNat).drop a.toNat)
 | false=>none
def cat (a b:Str):Option Str:=match leB ((a.length+b.length:Nat):Int) 9223372036854775807 with
 | true=>some (a++b)
 | false=>none
def app (bytes:Nat)(l m:List α):Option (List α):=match leN ((l.length+m.length)*(bytes+1)) 70368744177664 with
 | true=>some (l++m)
 | false=>none
def gdO (c:Bool)(x:Option γ):Option γ:=match c with
 | true=>x
 | false=>none
theorem gdO_inv {c:Bool}{x:Option γ}{r:γ}(h:gdO c x=some r):c=true/\x=some r:=by
 cases c with
 | true=>exact⟨rfl,h⟩
 | false=>cases h
theorem idx'_inv {l:List α}{x:α}(h:idx' l i=some x):inR i l.length=true/\l[i.toNat]? = some x:=by
 unfold idx' at h;cases hc:inR i l.length with
 | true=>rw[hc]at h;exact⟨rfl,h⟩
 | false=>rw[hc]at h;cases h
theorem idxS_inv {x:Int}(h:idxS s i=some x):inR i s.length=true/\((s.getD i.toNat 0).toNat:Nat)=x:=by
 unfold idxS at h;cases hc:inR i s.length with
 | true=>rw[hc]at h;exact⟨rfl,Option.some.inj h⟩
 | false=>rw[hc]at h;cases h
theorem subS_inv {a b:Int}(h:subS s a b=some x):inI a b s.length=true/\(s.take b.toNat).drop a.toNat=x:=by
 unfold subS at h;cases hc:inI a b s.length with
 | true=>rw[hc]at h;exact⟨rfl,Option.some.inj h⟩
 | false=>rw[hc]at h;cases h
theorem subL_inv {l x:List α}{a b:Int}(h:b2Y l a b=some x):inI a b l.length=true/\(l.take b.toNat).drop a.toNat=x:=by
 unfold b2Y at h;cases hc:inI a b l.length with
 | true=>rw[hc]at h;exact⟨rfl,Option.some.inj h⟩
 | false=>rw[hc]at h;cases h
theorem cat_inv {a b:Str}(h:cat a b=some x):leB ((a.length+b.length:Nat):Int) 9223372036854775807=true/\a++b=x:=by
 unfold cat at h;cases hc:leB ((a.length+b.length:Nat):Int) 9223372036854775807 with
 | true=>rw[hc]at h;exact⟨rfl,Option.some.inj h⟩
 | false=>rw[hc]at h;cases h
theorem b6g {l m x:List α}(h:app bytes l m=some x):(l.length+m.length)*(bytes+1)<=70368744177664/\l++m=x:=by
 unfold app at h;cases hc:leN ((l.length+m.length)*(bytes+1)) 70368744177664 with
 | true=>rw[hc]at h;exact⟨by simpa [leN]using hc,Option.some.inj h⟩
 | false=>rw[hc]at h;cases h
end
structure a3D {α:Type}(sz:Nat)(c1:α->List V)(cl:List α->List V):Prop where
 len:∀x,(c1 x).length=sz
 nil:cl []=[]
 cons:∀x r,cl (x::r)=c1 x++cl r
section
variable {α:Type} {sz:Nat} {c1:α->List V} {cl:List α->List V}
theorem a3D.append (h:a3D sz c1 cl):∀a b:List α,cl (a++b)=cl a++cl b
 | [],b=>by rw[h.nil];rfl
 | x::a,b=>by rw[List.cons_append,h.cons,h.cons,h.append a b,List.append_assoc]
theorem a3D.length (h:a3D sz c1 cl):∀a:List α,(cl a).length=a.length*sz
 | []=>by rw[h.nil];simp
 | x::a=>by rw[h.cons,List.length_append,h.len,h.length a,List.length_cons,Nat.succ_mul,Nat.add_comm]
theorem a3D.drop (h:a3D sz c1 cl):∀(k:Nat) (a:List α),(cl a).drop (k*sz)=cl (a.drop k)
 | 0,a=>by simp
 | k+1,[]=>by simp[h.nil]
 | k+1,x::a=>by
  rw[h.cons,Nat.succ_mul,Nat.add_comm,<-List.drop_drop];rw[List.drop_left' (h.len x),h.drop k a];rfl
theorem a3D.take (h:a3D sz c1 cl):∀(k:Nat) (a:List α),(cl a).take (k*sz)=cl (a.take k)
 | 0,a=>by simp[h.nil]
 | k+1,[]=>by simp[h.nil]
 | k+1,x::a=>by
  rw[h.cons,Nat.succ_mul,Nat.add_comm,List.take_append,List.take_of_length_le (by rw[h.len];omega),h.len,show sz+k*sz-sz=k*sz from by omega,h.take k a,List.take_succ_cons,h.cons]
theorem a3D.at (h:a3D sz c1 cl){l:List α}{i:Nat}{x:α}(hx:l[i]? = some x):(cl l).drop (i*sz)=c1 x++cl (l.drop (i+1)):=by
 rw[h.drop];have hi:i<l.length:=by
  rcases Nat.lt_or_ge i l.length with h1|h1
  ·exact h1
  ·rw[List.getElem?_eq_none h1]at hx;cases hx
 rw[List.drop_eq_getElem_cons hi,h.cons];rw[List.getElem?_eq_getElem hi]at hx;cases hx;rfl
end
def tpe (sz:Nat):Nat->Nat|0=>0|_+1=>sz
def clS:List Str->List V:=List.map V.str
theorem encS:a3D 1 (fun s:Str=>[V.str s]) clS:=⟨fun _=>rfl,rfl,fun _ _=>rfl⟩
def clI (k:IntKind):List Int->List V:=List.map (V.int k)
theorem encI (k:IntKind):a3D 1 (fun n:Int=>[V.int k n]) (clI k):=⟨fun _=>rfl,rfl,fun _ _=>rfl⟩
def clB:List Bool->List V:=List.map V.bool
theorem encB:a3D 1 (fun n:Bool=>[V.bool n]) clB:=⟨fun _=>rfl,rfl,fun _ _=>rfl⟩
def clSl {α:Type}(cl:List α->List V):List (List α)->List V:=List.map fun l=>.slice .sealed (List.length l) (cl l)
theorem encSl {α:Type}(cl:List α->List V):a3D 1 (fun l:List α=>[V.slice .sealed (List.length l) (cl l)]) (clSl cl):=⟨fun _=>rfl,rfl,fun _ _=>rfl⟩
def bytesOf (l:List Int):Str:=l.map fun n=>UInt8.ofNat n.toNat
def c4f (s:Str):List Int:=s.map fun b=>((b.toNat:Nat):Int)
section
variable {env:Env} {orc:Orc} {f nr:Nat} {ops:Array Oper} {o:Oper} {rest:List Oper} {fr fr1:Fr} {H H1:Hp} {K:Res->Prop}
theorem os_idx {α:Type}{sz:Nat}{c1:α->List V}{cl:List α->List V}(he:a3D sz c1 cl){l:List α}{x:α}{ow:Own}(hx:idx' l i=some x)(hw:E5 ops o fr=some true)(ho:o.op=.indexAddr t a b)
  (ha:ev fr a=some (.slice ow l.length (cl l))) (hb:ev fr b=some (.int k i)) (h1:K9 t env.T=some y) (h2:y.sh=.slice e) (h3:K9 e env.T=some ye) (h4:ye.size=sz)
  (h:Os env orc ops rest (V9 o.dst (.cptr (c1 x++cl (l.drop (i.toNat+1)))) fr) H K):Os env orc ops (o::rest) fr H K:=by
 have hp:O1 o.op=true:=by rw[ho];rfl
 obtain⟨g1,g2⟩:=idx'_inv hx;refine a4L hw hp ?_ h;rw[ho];simp only[a0j,ha,hb,b1n,h1,h2,h3,h4,g1,gd,he.at g2]
theorem os_idxS {x:Int}(hx:idxS s i=some x)(hw:E5 ops o fr=some true)(ho:o.op=.index t a b)
  (ha:ev fr a=some (.str s)) (hb:ev fr b=some (.int k i)) (h1:K9 t env.T=some y) (h2:y.sh=.string)
  (h:Os env orc ops rest (V9 o.dst (.int .u8 x) fr) H K):Os env orc ops (o::rest) fr H K:=by
 have hp:O1 o.op=true:=by rw[ho];rfl
 obtain⟨g1,rfl⟩:=idxS_inv hx;refine a4L hw hp ?_ h;rw[ho];simp only[a0j,ha,hb,c1d,h1,h2,g1,gd]
theorem os_subS (hx:subS s i j=some x)(hw:E5 ops o fr=some true)(ho:o.op=.slice t a lo hi none)
  (ha:ev fr a=some (.str s)) (hl:evX fr lo=some l') (hh:evX fr hi=some h') (hi':bnd l' 0=some i) (hj':bnd h' s.length=some j) (h1:K9 t env.T=some y) (h2:y.sh=.string)
  (h:Os env orc ops rest (V9 o.dst (.str x) fr) H K):Os env orc ops (o::rest) fr H K:=by
 have hp:O1 o.op=true:=by rw[ho];rfl
 obtain⟨g1,rfl⟩:=subS_inv hx;refine a4L hw hp ?_ h;rw[ho];have hx0:evX fr none=some none:=rfl;simp only[a0j,ha,hl,hh,hx0,b5C,h1,h2,hi',hj',g1,gd]
theorem os_subL {α:Type}{sz:Nat}{c1:α->List V}{cl:List α->List V}(he:a3D sz c1 cl){l x:List α}{ow:Own}(hx:b2Y l i j=some x)(hw:E5 ops o fr=some true)(ho:o.op=.slice t a lo hi none)
  (ha:ev fr a=some (.slice ow l.length (cl l))) (hl:evX fr lo=some l') (hh:evX fr hi=some h') (hi':bnd l' 0=some i) (hj':bnd h' l.length=some j) (h1:K9 t env.T=some y) (h2:y.sh=.slice e) (h3:K9 e env.T=some ye) (h4:ye.size=sz) (hq:(l'.isSome||h'.isSome)=true)
  (h:Os env orc ops rest (V9 o.dst (.slice .sealed x.length (cl x)) fr) H K):Os env orc ops (o::rest) fr H K:=by
 have hp:O1 o.op=true:=by rw[ho];rfl
 obtain⟨g1,rfl⟩:=subL_inv hx;subst h4;refine a4L hw hp ?_ h;rw[ho];have hx0:evX fr none=some none:=rfl;have hlen:((l.take j.toNat).drop i.toNat).length=j.toNat-i.toNat:=by
  have:=g1;simp only[inI,Bool.and_eq_true,decide_eq_true_eq]at this;rw[List.length_drop,List.length_take];omega
 rw[hlen,<-he.drop,<-he.take];cases l' with
 | none=>cases h' with
  | none=>cases hq
  | some q=>simp only[a0j,ha,hl,hh,hx0,b5C,h1,h2,h3,hi',hj',g1,gd]
 | some q=>simp only[a0j,ha,hl,hh,hx0,b5C,h1,h2,h3,hi',hj',g1,gd]
theorem os_cat {u:Str}{t2:Nat}(hx:cat s u=some x)(hw:E5 ops o fr=some true)(ho:o.op=.binOp .add t a b t2)
  (ha:ev fr a=some (.str s)) (hb:ev fr b=some (.str u))
  (h:Os env orc ops rest (V9 o.dst (.str x) fr) H K):Os env orc ops (o::rest) fr H K:=by
 have hp:O1 o.op=true:=by rw[ho];rfl
 obtain⟨g1,rfl⟩:=cat_inv hx;refine a4L hw hp ?_ h;rw[ho];simp only[a0j,ha,hb,vBin,vStr,g1,gd]
theorem c4x {α:Type}{sz:Nat}{c1:α->List V}{cl:List α->List V}(he:a3D sz c1 cl){l m x:List α}(hx:app bytes l m=some x)
  (hw:E5 ops o fr=some true) (ho:o.op=.call ⟨.builtin .append,args,at_⟩)
  (ha:args.toList=[a,b]) (ht:at_.toList=[t,xt]) (hs:ev fr a=some (.slice (.tag g) l.length (cl l))) (hv:ev fr b=some v)
  (h1:K9 t env.T=some y) (h2:K9 xt env.T=some yx) (h3:y.sh=.slice e) (h4:a9r yx.sh=true) (h5:K9 e env.T=some ye) (h6:ye.size=sz) (h7:ye.bytes=bytes) (h8:Nat.beq sz 0=false)
  (h9:a6M env.T e v H=some (m.length,cl m)) (hm:Nat.beq m.length 0=false) (h10:hget g H=some (.tip (tpe sz l.length) l.length)) (hH:a0O (some (hset g (.tip (tpe sz x.length) x.length) H))=some H1)
  (h:Os env orc ops rest (V9 o.dst (.slice (.tag g) x.length (cl x)) fr) H1 K):Os env orc ops (o::rest) fr H K:=by
 have hp:O1 o.op=false:=by rw[ho];rfl
 obtain⟨g1,rfl⟩:=b6g hx;rw[a2P,Option.some.injEq]at hH;subst hH h6 h7;have hw2:tpe ye.size l.length=0∨tpe ye.size l.length=ye.size:=by cases l.length<;>simp[tpe]
 have ht2:tpe ye.size (l++m).length=ye.size:=by
  rw[List.length_append];cases m with
  | nil=>simp at hm
  | cons z m=>rw[List.length_cons,<-Nat.add_assoc];rfl
 refine a2l hw hp ?_ h;unfold V5;rw[ho];simp only[ha,ht,hs,hv];rw[c5m h1 h2 h3 h4 h5 h9 hm h10 hw2 h8 (he.length l).symm g1,ht2,he.append,List.length_append]
theorem c57 {α:Type}{sz:Nat}{c1:α->List V}{cl:List α->List V}(he:a3D sz c1 cl){l m x:List α}(hx:app bytes l m=some x)
  (hw:E5 ops o fr=some true) (ho:o.op=.call ⟨.builtin .append,args,at_⟩)
  (ha:args.toList=[a,b]) (ht:at_.toList=[t,xt]) (hs:ev fr a=some (.slice (.tag g) l.length (cl l))) (hv:ev fr b=some v)
  (h1:K9 t env.T=some y) (h2:K9 xt env.T=some yx) (h3:y.sh=.slice e) (h4:a9r yx.sh=true) (h5:K9 e env.T=some ye) (h6:ye.size=sz) (h7:ye.bytes=bytes) (h8:Nat.beq sz 0=false)
  (h9:a6M env.T e v H=some (m.length,cl m)) (h10:hget g H=some (.tip (tpe sz l.length) l.length)) (hS:a0O (some (hset g (.tip (tpe sz l.length) l.length) H))=some H) (hH:a0O (some (hset g (.tip (tpe sz x.length) x.length) H))=some H1)
  (h:Os env orc ops rest (V9 o.dst (.slice (.tag g) x.length (cl x)) fr) H1 K):Os env orc ops (o::rest) fr H K:=by
 by_cases hm:m=[]
 ·subst hm;have hp:O1 o.op=false:=by rw[ho];rfl
  obtain⟨g1,rfl⟩:=b6g hx;rw[a2P,Option.some.injEq]at hH hS;rw[List.append_nil]at hH h;rw[hS]at hH;subst hH;refine a2l hw hp ?_ h;unfold V5;rw[ho];simp only[ha,ht,hs,hv];unfold a5g;simp only[h1,h2,h3,h4,h5,h9,List.length_nil,Nat.beq]
 ·refine c4x he hx hw ho ha ht hs hv h1 h2 h3 h4 h5 h6 h7 h8 h9 ?_ h10 hH h;cases m with
  | nil=>exact absurd rfl hm
  | cons z m=>rfl
theorem c58 {α:Type}{sz:Nat}{c1:α->List V}{cl:List α->List V}(he:a3D sz c1 cl){l m x:List α}{ow:Own}(hx:app bytes l m=some x)
  (hw:E5 ops o fr=some true) (ho:o.op=.call ⟨.builtin .append,args,at_⟩)
  (ha:args.toList=[a,b]) (ht:at_.toList=[t,xt]) (how:ow=.nil∨ow=.full) (hs:ev fr a=some (.slice ow l.length (cl l))) (hv:ev fr b=some v)
  (h1:K9 t env.T=some y) (h2:K9 xt env.T=some yx) (h3:y.sh=.slice e) (h4:a9r yx.sh=true) (h5:K9 e env.T=some ye) (h6:ye.size=sz) (h7:ye.bytes=bytes) (h8:Nat.beq sz 0=false)
  (h9:a6M env.T e v H=some (m.length,cl m)) (hm:Nat.beq m.length 0=false) (h10:hget (newName o) H=none) (hH:a0O (some (hset (newName o) (.tip (tpe sz x.length) x.length) H))=some H1)
  (h:Os env orc ops rest (V9 o.dst (.slice (.tag (newName o)) x.length (cl x)) fr) H1 K):Os env orc ops (o::rest) fr H K:=by
 have hp:O1 o.op=false:=by rw[ho];rfl
 obtain⟨g1,rfl⟩:=b6g hx;rw[a2P,Option.some.injEq]at hH;subst hH h6 h7;have ht2:tpe ye.size (l++m).length=ye.size:=by
  rw[List.length_append];cases m with
  | nil=>simp at hm
  | cons z m=>rw[List.length_cons,<-Nat.add_assoc];rfl
 refine a2l hw hp ?_ h;unfold V5;rw[ho];simp only[ha,ht,hs,hv];unfold a5g;have h11:Nat.beq ye.size 0=false:=h8;rw[List.length_append]at ht2;rcases how with rfl|rfl <;>
  simp only[h1,h2,h3,h4,h5,h9,hm,h10,h11,a3O (he.length l).symm,b2u g1,Bool.not_false,Bool.and_self,gd,ht2,he.append,List.length_append]
theorem os_appF {α:Type}{sz:Nat}{c1:α->List V}{cl:List α->List V}(he:a3D sz c1 cl){l m x:List α}{ow:Own}(hx:app bytes l m=some x)
  (hw:E5 ops o fr=some true) (ho:o.op=.call ⟨.builtin .append,args,at_⟩)
  (ha:args.toList=[a,b]) (ht:at_.toList=[t,xt]) (how:ow=.nil/\l=[]∨ow=.full/\leN 1 l.length=true) (hs:ev fr a=some (.slice ow l.length (cl l))) (hv:ev fr b=some v)
  (h1:K9 t env.T=some y) (h2:K9 xt env.T=some yx) (h3:y.sh=.slice e) (h4:a9r yx.sh=true) (h5:K9 e env.T=some ye) (h6:ye.size=sz) (h7:ye.bytes=bytes) (h8:Nat.beq sz 0=false)
  (h9:a6M env.T e v H=some (m.length,cl m)) (h10:hget (newName o) H=none) (hH:a0O (some (hset (newName o) (.tip (tpe sz x.length) x.length) H))=some H1)
  (h:Os env orc ops rest (V9 o.dst (.slice (.tag (newName o)) x.length (cl x)) fr) H1 K):Os env orc ops (o::rest) fr H K:=by
 by_cases hm:m=[]
 ·subst hm;have hp:O1 o.op=false:=by rw[ho];rfl
  obtain⟨g1,rfl⟩:=b6g hx;rw[a2P,Option.some.injEq]at hH;rw[List.append_nil]at hH h;subst hH h6;refine a2l hw hp ?_ h;unfold V5;rw[ho];simp only[ha,ht,hs,hv];unfold a5g;have h0:cl []=[]:=he.nil;rcases how with⟨rfl,rfl⟩ |⟨rfl,h11⟩
  ·simp only[h1,h2,h3,h4,h5,h9,List.length_nil,Nat.beq,h10,h8,Bool.not_false,gd,h0,tpe]
  ·have h12:=a5b h11;have h13:tpe ye.size l.length=ye.size:=by
    cases hl:l.length with
    | zero=>omega
    | succ q=>rfl
   simp only[h1,h2,h3,h4,h5,h9,List.length_nil,Nat.beq,h10,h8,h11,Bool.not_false,Bool.and_self,gd,h13]
 ·have hw2:ow=.nil∨ow=.full:=how.elim (fun h=>.inl h.1) fun h=>.inr h.1;refine c58 he hx hw ho ha ht hw2 hs hv h1 h2 h3 h4 h5 h6 h7 h8 h9 ?_ h10 hH h;cases m with
  | nil=>exact absurd rfl hm
  | cons z m=>rfl
theorem os_panic {x:Operand}(hw:E5 ops o fr=some true)(ho:o.op=.panic x)(hx:ev fr x=some (.iface t v))(h:K (.panic (.iface t v),fr,H)):Os env orc ops (o::rest) fr H K:=by
 have hp:O1 o.op=false:=by rw[ho];rfl
 refine⟨_,?_,h⟩;simp only[J5,hw,O0,hp];unfold V5;rw[ho];simp only[hx]
def segK (env:Env)(f nr id:Nat)(F:Fr)(G:Hp)(K:Res->Prop):Res->Prop |(.normal,fr,H)=>normal env f nr (id+100000) fr H=some (F,G)|r=>K r
theorem ev_seg {a b:Code}(F:Fr)(G:Hp)(hc:env.cut f (a3b b)=true)(hA:Ev env orc f nr a fr H (segK env f nr (a3b b) F G K))(hB:Ev env orc f nr b F G K):Ev env orc f nr (.seq a b) fr H K:=by
 refine c0i hc ?_;obtain⟨⟨e,fr1,H1⟩,h1,h2⟩:=hA;refine⟨_,h1,?_⟩;cases e with
 | normal=>exact⟨_,_,h2,hB⟩
 | _=>exact h2
def segL {α ρ:Type}(env:Env)(f nr id:Nat)(y:Lr α ρ)(F:α->Fr)(G:α->Hp)(KR:ρ->Res->Prop):Res->Prop |(.normal,fr,H)=>∃x,y=.brk x/\normal env f nr (id+100000) fr H=some (F x,G x)|r=>∃z,y=.out z/\KR z r
theorem c5D {α ρ:Type}{a b:Code}{KR:ρ->Res->Prop}(y:Lr α ρ)(F:α->Fr)(G:α->Hp)(hc:env.cut f (a3b b)=true)(hA:Ev env orc f nr a fr H (segL env f nr (a3b b) y F G KR))
  (hB:∀x,y=.brk x->Ev env orc f nr b (F x) (G x) K) (hR:∀z r,y=.out z->KR z r->r.1 ≠ .normal->K r):Ev env orc f nr (.seq a b) fr H K:=by
 refine c0i hc ?_;obtain⟨⟨e,fr1,H1⟩,h1,h2⟩:=hA;refine⟨_,h1,?_⟩;cases e with
 | normal=>obtain⟨x,h3,h4⟩:=h2;exact⟨_,_,h4,hB x h3⟩
 | ret=>obtain⟨z,h3,h4⟩:=h2;exact hR z _ h3 h4 (fun h=>by cases h)
 | exit i=>obtain⟨z,h3,h4⟩:=h2;exact hR z _ h3 h4 (fun h=>by cases h)
 | panic v=>obtain⟨z,h3,h4⟩:=h2;exact hR z _ h3 h4 (fun h=>by cases h)
def OsP (env:Env)(orc:Orc)(L sl:List Nat)(ops:Array Oper)(l:List Oper)(fr:Fr)(H:Hp)(K:Res->Prop):Prop:=∃r,J7 env orc L sl ops l fr H=some r/\K r
def onceK (env:Env)(orc:Orc)(L sl:List Nat)(ops:Array Oper)(l:List Oper)(K:Res->Prop):Res->Prop |(.normal,fr,H)=>OsP env orc L sl ops l fr H K|r=>K r
theorem osP_nil (h:K (.normal,fr,H)):OsP env orc L sl ops [] fr H K:=⟨_,rfl,h⟩
theorem c2w (hw:E5 ops o fr=some false)(h:OsP env orc L sl ops rest (V9 o.dst (.tuple []) fr) H K):OsP env orc L sl ops (o::rest) fr H K:=by
 obtain⟨r,h1,h2⟩:=h;exact⟨r,by simp only[J7,hw];exact h1,h2⟩
theorem osP_cons (hp:a3u env L sl fr H o=true)(h:Os env orc ops [o] fr H (onceK env orc L sl ops rest K)):OsP env orc L sl ops (o::rest) fr H K:=by
 obtain⟨r,h1,h2⟩:=h;simp only[J5]at h1;cases hw:E5 ops o fr with
 | none=>rw[hw]at h1;cases h1
 | some b =>
  rw[hw]at h1;cases b with
  | false =>
   simp only[Option.some.injEq]at h1;subst h1;exact c2w hw h2
  | true =>
   simp only at h1;cases hs:O0 env orc fr H o with
   | none=>rw[hs]at h1;cases h1
   | some x =>
    rw[hs]at h1;cases x with
    | val v H1 =>
     simp only[Option.some.injEq]at h1;subst h1;obtain⟨r,h3,h4⟩:=h2;exact⟨r,by simp only[J7,hw,hp,hs];exact h3,h4⟩
    | pan v H1 =>
     simp only[Option.some.injEq]at h1;subst h1;exact⟨_,by simp only[J7,hw,hp,hs],h2⟩
def sepK (nr:Nat)(ops:Array Oper)(L sl:List Nat)(K:Res->Prop):Res->Prop |(.normal,fr,H)=>a8r sl fr=some L/\K (.normal,fr,H) |(.panic v,fr,H)=>a8r sl fr=some L/\b9Y (a5I ops.toList) H=true /\ ∃v' H',finish nr v H=some (v',H')/\K (.panic v',[],H')|_=>False
theorem c30 {id:Nat}{d:Bool}{S:List Nat}(L:List Nat)(hs:b3S env f id d=some (S,sl))(h:OsP env orc L sl ops (a7R ops S) fr H (sepK nr ops L sl K)):Ev env orc f nr (.region id ops d) fr H K:=by
 obtain⟨⟨e,fr1,H1⟩,h1,h2⟩:=h;have h3:=a7t h1;unfold Ev;simp only[E8,hs];cases e with
 | normal =>
  obtain⟨g1,g2⟩:=h2;exact⟨_,by simp only[a5E,h3,g1,h1],g2⟩
 | panic v =>
  obtain⟨g1,g2,v',H',g3,g4⟩:=h2;exact⟨_,by simp only[a5E,h3,g1,h1,g2,g3],g4⟩
 | ret=>exact h2.elim
 | exit i=>exact h2.elim
theorem os_loadA {cs r:List V}(hw:E5 ops o fr=some true)(ho:o.op=.load t a)(ha:ev fr a=some (.cptr cs))(hs:cs=c++r)(h1:K9 t env.T=some y)(h2:a1l y.sh=true)(h3:c.length=y.size)
  (h:Os env orc ops rest (V9 o.dst (.agg c) fr) H K):Os env orc ops (o::rest) fr H K:=by
 refine a1n hw ho ha ?_ h;subst hs;have:leN c.length (c++r).length=true:=b2u (by rw[List.length_append];omega);simp only[a4c,h1,h2,<-h3,this,gd,List.take_left]
theorem c2x {f:Operand}{a:List V}(hw:E5 ops o fr=some true)(ho:o.op=.call ⟨.value f,args,at_⟩)(hf:ev fr f=some (.func (.func g) a c))
  (hl:evL fr args.toList=some l) (hc:a2r env orc (newName o) g (a++l++c) H=some (.val v H1))
  (h:Os env orc ops rest (V9 o.dst v fr) H1 K):Os env orc ops (o::rest) fr H K:=by
 have hp:O1 o.op=false:=by rw[ho];rfl
 refine a2l hw hp (v:=v) (H1:=H1) ?_ h;unfold V5;rw[ho];simp only[hf,hl,hc]
theorem c7f {f:Operand}{a:List V}(hw:E5 ops o fr=some true)(ho:o.op=.call ⟨.value f,args,at_⟩)(hf:ev fr f=some (.func (.func g) a c))
  (hl:evL fr args.toList=some l) (hc:a2r env orc (newName o) g (a++l++c) H=some (.pan v H1))
  (h:K (.panic v,fr,H1)):Os env orc ops (o::rest) fr H K:=by
 have hp:O1 o.op=false:=by rw[ho];rfl
 refine⟨_,?_,h⟩;simp only[J5,hw,O0,hp];unfold V5;rw[ho];simp only[hf,hl,hc]
theorem os_pickT {c:Operand}{x:Bool}(hw:E5 ops o fr=some true)(ho:o.op=.pick c a b)(hc:ev fr c=some (.bool x))(hx:x=true)(hv:a3P (ev fr a)=some v)
  (h:Os env orc ops rest (V9 o.dst v fr) H K):Os env orc ops (o::rest) fr H K:=by
 have hp:O1 o.op=true:=by rw[ho];rfl
 rw[b5d]at hv;refine a4L hw hp ?_ h;rw[ho];simp only[a0j,hc,hx,hv]
theorem os_pickF {c:Operand}{x:Bool}(hw:E5 ops o fr=some true)(ho:o.op=.pick c a b)(hc:ev fr c=some (.bool x))(hx:x=false)(hv:a3P (ev fr b)=some v)
  (h:Os env orc ops rest (V9 o.dst v fr) H K):Os env orc ops (o::rest) fr H K:=by
 have hp:O1 o.op=true:=by rw[ho];rfl
 rw[b5d]at hv;refine a4L hw hp ?_ h;rw[ho];simp only[a0j,hc,hx,hv]
theorem b43:∀l:List Int,a5f (clI .u8 l)=some (l.map fun n=>UInt8.ofNat n.toNat)
 | []=>rfl
 | n::r=>by
  have:=b43 r;simp only[clI,List.map_cons]at this ⊢;simp only[a5f,this]
theorem os_toStr {l:List Int}{ow:Own}(hw:E5 ops o fr=some true)(ho:o.op=.convert t d a)(ha:ev fr a=some (.slice ow l.length (clI .u8 l)))
  (h1:K9 t env.T=some y) (h2:K9 d env.T=some z) (h3:z.sh=.string) (h4:y.sh=.slice e) (h5:K9 e env.T=some ye) (h6:ye.sh=.int .u8)
  (h:Os env orc ops rest (V9 o.dst (.str (bytesOf l)) fr) H K):Os env orc ops (o::rest) fr H K:=by
 have hp:O1 o.op=true:=by rw[ho];rfl
 refine a4L hw hp ?_ h;rw[ho];have h7:eqN l.length (l.map fun n=>UInt8.ofNat n.toNat).length=true:=a3O (by rw[List.length_map]);simp only[a0j,ha,b44,h1,h2,h3,h4,h5,h6,b43,h7,gd,bytesOf]
theorem os_ofStr (hw:E5 ops o fr=some true)(ho:o.op=.convert t d a)(ha:ev fr a=some (.str s))
  (h1:K9 t env.T=some y) (h2:K9 d env.T=some z) (h3:y.sh=.string) (h4:z.sh=.slice e) (h5:K9 e env.T=some ye) (h6:ye.sh=.int .u8)
  (h:Os env orc ops rest (V9 o.dst (.slice .sealed (c4f s).length (clI .u8 (c4f s))) fr) H K):Os env orc ops (o::rest) fr H K:=by
 have hp:O1 o.op=true:=by rw[ho];rfl
 refine a4L hw hp ?_ h;rw[ho];simp only[a0j,ha,b44,h1,h2,h3,h4,h5,h6,a06,c4f,clI,List.length_map,List.map_map];rfl
@[reducible] def w64 (x:Int):Int:=IntKind.wrap .i64 x
end
end Go.Vm
namespace Go.Vm
@[reducible] def V.i (x:Int):V:=.int .i64 x
@[reducible] def V.sl {α:Type} (f:List α->List V) (x:List α):V:=.slice .sealed (List.length x) (f x)
@[reducible] def V.sf {α:Type} (f:List α->List V) (x:List α):V:=.slice .full (List.length x) (f x)
@[reducible] def V.st {α:Type} (g:Nat) (f:List α->List V) (x:List α):V:=.slice (.tag g) (List.length x) (f x)
@[reducible] def c0 (a:Int) (b:List UInt8) (c d:Int) (e:List UInt8) (f:Int) (g h i:V) (j:Int):List V:=[.int .i64 a,.str b,.int .i64 c,.int .i64 d,.str e,.int .i64 f,g,h,i,.int .i64 j]
@[reducible] def hR {α:Type} (f:List α->List V) (l:List α) (a b c:Int):Hp:=[(0,.row [.slice .sealed (List.length l) (f l),.int .i64 a,.int .i64 b,.int .i64 c])]
@[reducible] def hP {α:Type} (f:List α->List V) (l:List α) (a b:Int):Hp:=[(0,.row [.slice .sealed (List.length l) (f l),.int .i64 a,.int .i64 b])]
section
variable {env:Env} {orc:Orc} {f nr:Nat} {ops:Array Oper} {o:Oper} {rest rest':List Oper} {fr fr1 fr':Fr} {H H1 H':Hp} {r:Option Res} {v:V} {K:Res->Prop}
def auto (env:Env)(orc:Orc)(ops:Array Oper):Nat->List Oper->Fr->Hp->Option (List Oper×Fr×Hp)
 | 0,rest,fr,H=>some (rest,fr,H)
 | _+1,[],fr,H=>none
 | k+1,o::rest,fr,H=>match E5 ops o fr with
  | none=>none
  | some false=>auto env orc ops k rest (V9 o.dst (.tuple []) fr) H
  | some true=>match O1 o.op with
   | true=>match a3P (a0j env.T fr o.op)with
    | some v=>auto env orc ops k rest (V9 o.dst v fr) H
    | none=>none
   | false=>match b7a (V5 env orc fr H o)with
    | some (.val v H1)=>auto env orc ops k rest (V9 o.dst v fr) H1
    | _=>none
theorem oA:∀(k:Nat) {rest:List Oper} {fr:Fr} {H:Hp} (h:auto env orc ops k rest fr H=some (rest',fr',H')) (h2:Os env orc ops rest' fr' H' K),Os env orc ops rest fr H K
 | 0,rest,fr,H,h,h2=>by cases h;exact h2
 | k+1,[],fr,H,h,h2=>by cases h
 | k+1,o::rest,fr,H,h,h2=>by
  simp only[auto]at h;split at h
  ·cases h
  ·rename_i hw;exact c6c hw (oA k h h2)
  ·rename_i hw;split at h
   ·rename_i hp;split at h
    ·rename_i v hv;exact l7 hw hp hv (oA k h h2)
    ·cases h
   ·rename_i hp;split at h
    ·rename_i v H1 hv;exact c4y hw hp hv (oA k h h2)
    ·cases h
theorem oV {g:Nat}{args:Array Operand}{at_:Array TypeId}{l ac:List V}{ns:List Nat}{H3 H4 Hc:Hp}{v v4:V}(hc:orc (.call g ac) Hc=some (.ret v H3))(h:Os env orc ops rest (V9 o.dst v4 fr) H4 K)
  (hw:E5 ops o fr=some true:=by exact rfl) (ho:o.op=.call ⟨.value (.func g),args,at_⟩:=by exact rfl)
  (hl:evL fr args.toList=some l:=by exact rfl) (hq:(env.quiet g||env.look g)=false:=by exact rfl) (hp:a8b env g l H=some (ns,ac,Hc):=by exact rfl) (h7:a5K (a1D (J3 ns (newName o)) dep v)=some v4:=by exact rfl)
  (h8:a0O (a1H (J3 ns (newName o)) H3 H)=some H4:=by exact rfl) (h9:a4e H H3 (newName o) ns.length=true:=by exact rfl):Os env orc ops (o::rest) fr H K :=
 b3k hw ho hl (a5J hq hp hc h7 h8 h9) h
theorem oB (k:Nat){rest:List Oper}{fr:Fr}{H:Hp}(h:auto env orc ops k rest fr H=some ([],fr',H'))(h2:K (.normal,fr',H')):Os env orc ops rest fr H K:=oA k h (G5 h2)
theorem oD (h:Os env orc ops rest (V9 o.dst v fr) H K)(hw:E5 ops o fr=some true:=by exact rfl)(hp:O1 o.op=true:=by exact rfl)(hv:a5K (a0j env.T fr o.op)=some v:=by exact rfl):Os env orc ops (o::rest) fr H K:=c2y hw hp hv h
theorem eSG {id:Nat}{d:Bool}{b:Code}(h:Os env orc ops ops.toList fr H (regK d (thenK env orc f nr b K)))(hc:env.cut f (a3b b)=false:=by rfl)(hb:(d&&env.loose f)=false:=by rfl)(hs:b3S env f id d=none:=by rfl):Ev env orc f nr (.seq (.region id ops d) b) fr H K:=F7 (o7 h hb hs) hc
end
variable {et r t:Nat} {ki kv x:Operand} {y yk:Ty}
section
variable {κ β:Type}
def b6V (ek:κ->V)(eb:β->V):List (κ×β)->List (V×V) | []=>[] |(k,b)::r=>(ek k,eb b)::b6V ek eb r
def mget (q:κ->κ->Bool)(i:κ):List (κ×β)->Option β
 | []=>none
 |(k,b)::r=>match q i k with
  | true=>some b
  | false=>mget q i r
def b57 (q:κ->κ->Bool)(i:κ)(b:β):List (κ×β)->List (κ×β)
 | []=>[(i,b)]
 |(k,x)::r=>match q i k with
  | true=>(i,b)::r
  | false=>(k,x)::b57 q i b r
theorem b84 {ek:κ->V}{eb:β->V}{q:κ->κ->Bool}(hq:∀a b,b2V (ek a) (ek b)=some (q a b))(i:κ):∀m:List (κ×β),b69 (ek i) (b6V ek eb m)=some ((mget q i m).map eb)
 | []=>rfl
 |(k,b)::r=>by
  simp only[b6V,b69,mget,hq];cases q i k with
  | true=>rfl
  | false=>exact b84 hq i r
theorem b7R {ek:κ->V}{eb:β->V}{q:κ->κ->Bool}(hq:∀a b,b2V (ek a) (ek b)=some (q a b))(i:κ)(x:β):∀m:List (κ×β),putM (ek i) (eb x) (b6V ek eb m)=some (b6V ek eb (b57 q i x m))
 | []=>rfl
 |(k,b)::r=>by
  simp only[b6V,putM,b57,hq];cases q i k with
  | true=>rfl
  | false =>
   simp only[b7R hq i x r];rfl
theorem b0B (k:IntKind)(a b:Int):b2V (.int k a) (.int k b)=some (eqB a b):=by simp[b2V]
end
section
variable {env:Env} {orc:Orc} {ops:Array Oper} {rest:List Oper} {fr:Fr} {H H1:Hp} {K:Res->Prop} {o:Oper}
theorem os_mapU {κ β:Type}{q:κ->κ->Bool}{ek:κ->V}{eb:β->V}(hq:∀a b,b2V (ek a) (ek b)=some (q a b)){m:List (κ×β)}{i:κ}{b:β}{kt:Nat}
  (hw:E5 ops o fr=some true) (ho:o.op=.mapUpdate t x ki kv) (hx:ev fr x=some (.map r)) (hi:ev fr ki=some (ek i)) (hv:ev fr kv=some (eb b)) (h1:K9 t env.T=some y) (h2:y.sh=.map kt et) (h3:K9 kt env.T=some yk)
  (h4:b3O yk.sh (ek i)=true) (h5:b2R (eb b)=some (eb b)) (h6:hget r H=some (.mp (b6V ek eb m))) (hH:a0O (some (hset r (.mp (b6V ek eb (b57 q i b m))) H))=some H1)
  (h:Os env orc ops rest (V9 o.dst .undef fr) H1 K):Os env orc ops (o::rest) fr H K:=by
 have hp:O1 o.op=false:=by rw[ho];rfl
 rw[a2P,Option.some.injEq]at hH;subst hH;refine a2l hw hp (v:=.undef) ?_ h;unfold V5;rw[ho];simp only[hx,hi,hv,a7h,h1,h2,h3,h4,h5,h6,b7R hq]
theorem c6a {κ β:Type}{q:κ->κ->Bool}{ek:κ->V}{eb:β->V}(hq:∀a b,b2V (ek a) (ek b)=some (q a b)){m:List (κ×β)}{i:κ}{b:β}{kt:Nat}
  (hw:E5 ops o fr=some true) (ho:o.op=.insert t x ki kv) (hx:ev fr x=some (.map r)) (hi:ev fr ki=some (ek i)) (hv:ev fr kv=some (eb b)) (h1:K9 t env.T=some y) (h2:y.sh=.map kt et) (h3:K9 kt env.T=some yk)
  (h4:b3O yk.sh (ek i)=true) (h5:b2R (eb b)=some (eb b)) (h6:hget r H=some (.mp (b6V ek eb m))) (hH:a0O (some (hset r (.mp (b6V ek eb (b57 q i b m))) H))=some H1)
  (h:Os env orc ops rest (V9 o.dst .undef fr) H1 K):Os env orc ops (o::rest) fr H K:=by
 have hp:O1 o.op=false:=by rw[ho];rfl
 rw[a2P,Option.some.injEq]at hH;subst hH;refine a2l hw hp (v:=.undef) ?_ h;unfold V5;rw[ho];simp only[hx,hi,hv,a7h,h1,h2,h3,h4,h5,h6,b7R hq]
theorem c6b {κ β:Type}{q:κ->κ->Bool}{ek:κ->V}{eb:β->V}(hq:∀a b,b2V (ek a) (ek b)=some (q a b)){m:List (κ×β)}{i:κ}{d:β}{kt:Nat}{ye:Ty}
  (hw:E5 ops o fr=some true) (ho:o.op=.lookup t x ki false) (hx:ev fr x=some (.map r)) (hi:ev fr ki=some (ek i)) (h1:K9 t env.T=some y) (h2:y.sh=.map kt et) (h3:K9 kt env.T=some yk) (h3':K9 et env.T=some ye)
  (h4:b3O yk.sh (ek i)=true) (h5:zeroV ye=eb d) (h6:hget r H=some (.mp (b6V ek eb m)))
  (h:Os env orc ops rest (V9 o.dst (eb ((mget q i m).getD d)) fr) H K):Os env orc ops (o::rest) fr H K:=by
 have hp:O1 o.op=false:=by rw[ho];rfl
 refine a2l hw hp (v:=eb ((mget q i m).getD d)) (H1:=H) ?_ h;unfold V5;rw[ho];simp only[hx,hi,b6y,h1,h2,h3,h3',h4,h6,b84 hq];cases mget q i m with
 | none=>simp only[Option.map_none,Option.getD_none,h5]
 | some b=>simp only[Option.map_some,Option.getD_some]
end
variable {ρ σ1 σ2 σ3 σ4 σ5 σ6:Type} {d:Bool} {body:Code} {H3 H4:Hp} {i:Int} {kk:IntKind} {L sl:List Nat} {cs:List V} {n:Nat} {hi lo:Option Operand} {h' l':Option V} {w2:Own} {s:Str} {v4:V}
class OkF (env:Env){α:Type}(p:Option α)(g:outParam Nat)(l:outParam (List V))(H:outParam Hp)(o:outParam (α->Out)):Prop where
 ok:∀{r},p=some r->E env (.call g l) H=some (o r)
class AllC (α:Type)(Q:outParam ((α->Prop)->Prop)):Prop where
 all:∀{P},Q P -> ∀x,P x
instance {α β:Type}:AllC (α×β) (fun P=>∀a b,P (a,b)):=⟨fun h x=>h x.1 x.2⟩
instance {α β:Type}:AllC (Rs α β) (fun P=>(∀a,P (.ok a)) /\ ∀b,P (.pan b)):=⟨fun h x=>by cases x with|ok a=>exact h.1 a|pan b=>exact h.2 b⟩
instance:AllC Empty (fun _=>True):=⟨fun _ x=>x.elim⟩
class b4s {α:Type}(cl:List α->List V)(sz:outParam Nat)(c1:outParam (α->List V)):Prop where
 e:a3D sz c1 cl
instance:b4s clS 1 (fun s:Str=>[V.str s]):=⟨encS⟩
instance {k:IntKind}:b4s (clI k) 1 (fun n:Int=>[V.int k n]):=⟨encI k⟩
instance:b4s clB 1 (fun n:Bool=>[V.bool n]):=⟨encB⟩
instance {α:Type}{cl:List α->List V}:b4s (clSl cl) 1 (fun l:List α=>[V.slice .sealed (List.length l) (cl l)]):=⟨encSl cl⟩
class b3W (α:Type)(cl:outParam (List α->List V))(sz:outParam Nat)(c1:outParam (α->List V)):Prop where
 e:a3D sz c1 cl
instance:b3W Str clS 1 (fun s:Str=>[V.str s]):=⟨encS⟩
instance:b3W Int (clI .i64) 1 (fun n:Int=>[V.int .i64 n]):=⟨encI _⟩
instance:b3W Bool clB 1 (fun n:Bool=>[V.bool n]):=⟨encB⟩
instance {α:Type}{cl:List α->List V}{sz:Nat}{c1:α->List V} [b3W α cl sz c1]:b3W (List α) (clSl cl) 1 (fun l:List α=>[V.slice .sealed (List.length l) (cl l)]):=⟨encSl cl⟩
@[reducible] def lk (t:Nat) (fr:Fr):V:=Go.Vm.look t fr
def cH (H:Hp)(k j:Nat):V:=match hget k H with
 | some (.row cs)=>(cs[j]?).getD .undef
 | _=>.undef
def oH (H:Hp)(k:Nat):Obj:=(hget k H).getD .gone
def ow (o:Own):V->V | .slice _ n cs=>.slice o n cs|v=>v
def agC (v:V)(j:Nat):V:=match v with
 | .agg cs=>(cs[j]?).getD .undef
 | _=>.undef
def FE (j:Fr×Hp)(G:Fr->Hp->Prop):Prop:=∃fr H,fF j.1 some=some fr/\fH j.2 some=some H/\G fr H
theorem FE_ok {j:Fr×Hp}{G:Fr->Hp->Prop}(h:FE j G):G j.1 j.2:=by
 obtain⟨fr,H,h1,h2,h3⟩:=h;rw[fF_eq]at h1;rw[b1q]at h2;cases h1;cases h2;exact h3
def b4U (fr:Fr)(o:Oper):Bool:=match o.guard with
 | some _=>false
 | none=>match o.op with
  | .indexAddr _ a _=>match ev fr a with
   | some (.slice ..)=>false
   | _=>true
  | .index ..=>false
  | .slice _ a lo hi _=>match ev fr a,lo,hi with
   | some (.str _),_,_=>false
   | _,none,none=>true
   | _,_,_=>false
  | .binOp op _ a _ _=>match op with
   | .add=>match ev fr a with
    | some (.str _)=>false
    | _=>true
   | .quo | .rem=>false
   | _=>true
  | .load _ a=>match ev fr a with
   | some (.cptr _)=>false
   | _=>true
  | .convert _ _ a=>match ev fr a with
   | some (.int ..)=>true
   | _=>false
  | .call {callee:=.builtin .len,.. } | .call {callee:=.builtin .min,.. } | .call {callee:=.builtin .max,.. }=>true
  | .call _ | .mapUpdate .. | .lookup .. | .insert .. | .makeSlice .. | .panic _ | .pick ..=>false
  | _=>true
section
variable {β:Type}
def c1B (env:Env)(orc:Orc):List Oper->Fr->Hp ->(List Oper->Fr->Hp->Option β)->Option β
 | [],fr,H,k=>k [] fr H
 | o::rest,fr,H,k=>match b4U fr o with
  | false=>k (o::rest) fr H
  | true=>match O1 o.op with
   | true=>match a0j env.T fr o.op with
    | some v=>fA v fun v=>c1B env orc rest (V9 o.dst v fr) H k
    | none=>none
   | false=>match V5 env orc fr H o with
    | some (.val v H1)=>fV v fun v=>fH H1 fun H1=>c1B env orc rest (V9 o.dst v fr) H1 k
    | _=>none
end
section
variable {env:Env} {orc:Orc} {f nr:Nat} {ops:Array Oper} {o:Oper} {rest rest':List Oper} {fr fr1 fr':Fr} {H H1 H':Hp} {K:Res->Prop}
theorem b3V (h:b4U fr o=true):E5 ops o fr=some true:=by
 unfold b4U at h;split at h
 ·cases h
 ·rename_i hg;simp only[E5,hg]
theorem b6N:∀{rest:List Oper} {fr:Fr} {H:Hp} (_:c1B env orc rest fr H (fun l fr H=>some (l,fr,H))=some (rest',fr',H')) (_:Os env orc ops rest' fr' H' K),Os env orc ops rest fr H K
 | [],fr,H,h,h2=>by cases h;exact h2
 | o::rest,fr,H,h,h2=>by
  unfold c1B at h;split at h
  ·cases h;exact h2
  ·rename_i hs;split at h
   ·rename_i hp;split at h
    ·rename_i v hv;rw[b66]at h;exact a4L (b3V hs) hp hv (b6N h h2)
    ·cases h
   ·rename_i hp;split at h
    ·rename_i v H1 hv;rw[fV_eq,b1q]at h;exact a2l (b3V hs) hp hv (b6N h h2)
    ·cases h
theorem oR (hs:b4U fr o=true)(h:c1B env orc (o::rest) fr H (fun l fr H=>some (l,fr,H))=some (rest',fr',H'))(h2:Os env orc ops rest' fr' H' K):Os env orc ops (o::rest) fr H K:=b6N h h2
def CallR (env:Env)(orc:Orc)(ops:Array Oper)(o:Oper)(rest:List Oper)(fr:Fr)(H:Hp)(ns:List Nat)(K:Res->Prop):Out->Prop | .ret v H3=>∃v4 H4,a5K (a1D (J3 ns (newName o)) dep v)=some v4/\a0O (a1H (J3 ns (newName o)) H3 H)=some H4/\a4e H H3 (newName o) ns.length=true/\Os env orc ops rest (V9 o.dst v4 fr) H4 K | .pan v H3=>∃v4 H4,a5K (a1D (J3 ns (newName o)) dep v)=some v4/\a0O (a1H (J3 ns (newName o)) H3 H)=some H4/\a4e H H3 (newName o) ns.length=true/\K (.panic v4,fr,H4) | .res _=>False
def c3x (env:Env)(orc:Orc)(ops:Array Oper)(o:Oper)(rest:List Oper)(fr:Fr)(H:Hp)(K:Res->Prop):Out->Prop | .ret v H3=>∃v2,H3=[]/\a1D a4J dep v=some v2/\Os env orc ops rest (V9 o.dst v2 fr) H K|_=>False
section
variable {α γ:Type} {p:Option α} {k:α->Option γ} {y:γ} {g:Nat} {out:α->Out} {args:Array Operand} {at_:Array TypeId} {fo:Operand} {l a c ac l2:List V} {ns:List Nat} {Hc:Hp}
theorem bindP_b {β δ:Type}{q:Option (Rs α β)}{k:α->Option δ}{e:β->Option δ}{y:δ}(h:p9 q k e=some y):q.bind (fun x=>match x with | .ok a=>k a | .pan b=>e b)=some y:=by
 cases q with
 | none=>exact h
 | some x=>cases x<;>exact h
theorem k_call (ho:o.op=.call ⟨.value fo,args,at_⟩)(h:p.bind k=some y) [i:OkF env p g ac Hc out] (hw:E5 ops o fr=some true)(hf:ev fr fo=some (.func (.func g) a c))(hl:evL fr args.toList=some l)
  (hq:(env.quiet g||env.look g)=false) (hp:a8b env g (a++l++c) H=some (ns,ac,Hc)) (hk:∀x,k x=some y->CallR env (E env) ops o rest fr H ns K (out x)):Os env (E env) ops (o::rest) fr H K:=by
 obtain⟨x,h1,h2⟩:=a4d h;have h3:=hk x h2;have h4:=i.ok h1;revert h3 h4;cases out x with
 | ret v H3 =>
  rintro⟨v4,H4,e1,e2,e3,e4⟩ h4;exact c2x hw ho hf hl (a5J hq hp h4 e1 e2 e3) e4
 | pan v H3 =>
  rintro⟨v4,H4,e1,e2,e3,e4⟩ h4;exact c7f hw ho hf hl (c1E hq hp h4 e1 e2 e3) e4
 | res r=>exact fun h=>h.elim
def LookR (env:Env)(orc:Orc)(ops:Array Oper)(o:Oper)(rest:List Oper)(fr:Fr)(H:Hp)(ns:List Nat)(K:Res->Prop):Out->Prop | .ret v H3=>∃v4,a5K (a1D (J3 ns (newName o)) dep v)=some v4/\a0O (a1H (J3 ns (newName o)) H3 H)=some H/\a4e H H3 (newName o) ns.length=true/\Os env orc ops rest (V9 o.dst v4 fr) H K|_=>False
theorem k_look (ho:o.op=.call ⟨.value fo,args,at_⟩)(h:p.bind k=some y) [i:OkF env p g ac Hc out] (hw:E5 ops o fr=some true)(hf:ev fr fo=some (.func (.func g) a c))(hl:evL fr args.toList=some l)
  (hq:env.quiet g=false) (hlk:env.look g=true) (hp:a8b env g (a++l++c) H=some (ns,ac,Hc)) (hk:∀x,k x=some y->LookR env (E env) ops o rest fr H ns K (out x)):Os env (E env) ops (o::rest) fr H K:=by
 obtain⟨x,h1,h2⟩:=a4d h;have h3:=hk x h2;have h4:=i.ok h1;revert h3 h4;cases out x with
 | ret v H3 =>
  rintro⟨v4,e1,e2,e3,e4⟩ h4;exact c2x hw ho hf hl (b91 hq hlk hp h4 e1 e2 e3) e4
 | pan v H3=>exact fun h=>h.elim
 | res r=>exact fun h=>h.elim
theorem k_quiet (ho:o.op=.call ⟨.value fo,args,at_⟩)(h:p.bind k=some y) [i:OkF env p g l2 [] out] (hw:E5 ops o fr=some true)(hf:ev fr fo=some (.func (.func g) [] []))(hq:env.quiet g=true)(hl:evL fr args.toList=some l)
  (hr:a1m (a1D a4J dep) (l.map a9z)=some l2) (hk:∀x,k x=some y->c3x env (E env) ops o rest fr H K (out x)):Os env (E env) ops (o::rest) fr H K:=by
 obtain⟨x,h1,h2⟩:=a4d h;have h3:=hk x h2;have h4:=i.ok h1;revert h3 h4;cases out x with
 | ret v H3 =>
  rintro⟨v2,rfl,e1,e2⟩ h4;exact b9o hw ho hf hq hl hr h4 e1 e2
 | pan v H3=>exact fun h=>h.elim
 | res r=>exact fun h=>h.elim
end
section
variable {α γ:Type} {y:γ} {sz:Nat} {c1:α->List V} {cl:List α->List V}
theorem k_idx {l:List α}{k:α->Option γ}{t e:Nat}{a b:Operand}{w:Own}{yt ye:Ty}(ho:o.op=.indexAddr t a b)(h:(idx' l i).bind k=some y)(ha:ev fr a=some (.slice w l.length (cl l))) [he:b4s cl sz c1]
  (hk:∀x,k x=some y->Os env orc ops rest (V9 o.dst (.cptr (c1 x++cl (l.drop (i.toNat+1)))) fr) H K)
  (hw:E5 ops o fr=some true:=by exact rfl) (hb:ev fr b=some (.int kk i):=by exact rfl) (h1:K9 t env.T=some yt:=by exact rfl) (h2:yt.sh=.slice e:=by exact rfl) (h3:K9 e env.T=some ye:=by exact rfl) (h4:ye.size=sz:=by exact rfl):Os env orc ops (o::rest) fr H K:=by
 obtain⟨x,g1,g2⟩:=a4d h;exact os_idx he.e g1 hw ho ha hb h1 h2 h3 h4 (hk x g2)
theorem k_idxS {k:Int->Option γ}{t:Nat}{a b:Operand}{yt:Ty}(ho:o.op=.index t a b)(h:(idxS s i).bind k=some y)(hk:∀x,k x=some y->Os env orc ops rest (V9 o.dst (.int .u8 x) fr) H K)
  (hw:E5 ops o fr=some true:=by exact rfl) (ha:ev fr a=some (.str s):=by exact rfl) (hb:ev fr b=some (.int kk i):=by exact rfl) (h1:K9 t env.T=some yt:=by exact rfl) (h2:yt.sh=.string:=by exact rfl):Os env orc ops (o::rest) fr H K:=by
 obtain⟨x,g1,g2⟩:=a4d h;exact os_idxS g1 hw ho ha hb h1 h2 (hk x g2)
theorem k_subS {j:Int}{k:Str->Option γ}{t:Nat}{a:Operand}{yt:Ty}(ho:o.op=.slice t a lo hi none)(h:(subS s i j).bind k=some y)(hk:∀x,k x=some y->Os env orc ops rest (V9 o.dst (.str x) fr) H K)
  (hw:E5 ops o fr=some true:=by exact rfl) (ha:ev fr a=some (.str s):=by exact rfl) (hl:evX fr lo=some l':=by exact rfl) (hh:evX fr hi=some h':=by exact rfl) (hi':bnd l' 0=some i:=by exact rfl) (hj':bnd h' s.length=some j:=by exact rfl)
  (h1:K9 t env.T=some yt:=by exact rfl) (h2:yt.sh=.string:=by exact rfl):Os env orc ops (o::rest) fr H K:=by
 obtain⟨x,g1,g2⟩:=a4d h;exact os_subS g1 hw ho ha hl hh hi' hj' h1 h2 (hk x g2)
theorem k_subL {l:List α}{j:Int}{k:List α->Option γ}{t e:Nat}{w:Own}{a:Operand}{yt ye:Ty}(ho:o.op=.slice t a lo hi none)(h:(b2Y l i j).bind k=some y)(ha:ev fr a=some (.slice w l.length (cl l))) [he:b4s cl sz c1]
  (hk:∀x:List α,k x=some y->Os env orc ops rest (V9 o.dst (.slice .sealed x.length (cl x)) fr) H K)
  (hw:E5 ops o fr=some true:=by exact rfl) (hl:evX fr lo=some l':=by exact rfl) (hh:evX fr hi=some h':=by exact rfl) (hi':bnd l' 0=some i:=by exact rfl) (hj':bnd h' l.length=some j:=by exact rfl)
  (h1:K9 t env.T=some yt:=by exact rfl) (h2:yt.sh=.slice e:=by exact rfl) (h3:K9 e env.T=some ye:=by exact rfl) (h4:ye.size=sz:=by exact rfl) (hq:(l'.isSome||h'.isSome)=true:=by exact rfl):Os env orc ops (o::rest) fr H K:=by
 obtain⟨x,g1,g2⟩:=a4d h;exact os_subL he.e g1 hw ho ha hl hh hi' hj' h1 h2 h3 h4 hq (hk x g2)
theorem k_cat {u:Str}{k:Str->Option γ}{t t2:Nat}{a b:Operand}(ho:o.op=.binOp .add t a b t2)(h:(cat s u).bind k=some y)(hk:∀x,k x=some y->Os env orc ops rest (V9 o.dst (.str x) fr) H K)
  (hw:E5 ops o fr=some true:=by exact rfl) (ha:ev fr a=some (.str s):=by exact rfl) (hb:ev fr b=some (.str u):=by exact rfl):Os env orc ops (o::rest) fr H K:=by
 obtain⟨x,g1,g2⟩:=a4d h;exact os_cat g1 hw ho ha hb (hk x g2)
section
variable {l m:List α} {k:List α->Option γ} {bytes:Nat} {args:Array Operand} {at_:Array TypeId} {a b:Operand} {t xt e g:Nat} {w:Own} {yt yx ye:Ty} {v:V}
theorem k_app (ho:o.op=.call ⟨.builtin .append,args,at_⟩)(h:(app bytes l m).bind k=some y)(ha:args.toList=[a,b])(hs:ev fr a=some (.slice (.tag g) l.length (cl l))) [he:b4s cl sz c1]
  (hm:Nat.beq m.length 0=false) (hk:∀x,k x=some y -> ∃H1,a0O (some (hset g (.tip (tpe sz x.length) x.length) H))=some H1/\Os env orc ops rest (V9 o.dst (.slice (.tag g) x.length (cl x)) fr) H1 K)
  (hw:E5 ops o fr=some true:=by exact rfl) (ht:at_.toList=[t,xt]:=by exact rfl) (hv:ev fr b=some v:=by exact rfl)
  (h1:K9 t env.T=some yt:=by exact rfl) (h2:K9 xt env.T=some yx:=by exact rfl) (h3:yt.sh=.slice e:=by exact rfl) (h4:a9r yx.sh=true:=by exact rfl) (h5:K9 e env.T=some ye:=by exact rfl) (h6:ye.size=sz:=by exact rfl) (h7:ye.bytes=bytes:=by exact rfl) (h8:Nat.beq sz 0=false:=by exact rfl)
  (h9:a6M env.T e v H=some (m.length,cl m):=by exact(b5g (a3O rfl) rfl)) (h10:hget g H=some (.tip (tpe sz l.length) l.length):=by exact rfl):Os env orc ops (o::rest) fr H K:=by
 obtain⟨x,g1,g2⟩:=a4d h;obtain⟨H1,g3,g4⟩:=hk x g2;exact c4x he.e g1 hw ho ha ht hs hv h1 h2 h3 h4 h5 h6 h7 h8 h9 hm h10 g3 g4
theorem k_appT (ho:o.op=.call ⟨.builtin .append,args,at_⟩)(h:(app bytes l m).bind k=some y)(ha:args.toList=[a,b]) [he:b3W α cl sz c1]
  (hm:Nat.beq m.length 0=false) (hk:∀x,k x=some y -> ∃H1,a0O (some (hset g (.tip (tpe sz x.length) x.length) H))=some H1/\Os env orc ops rest (V9 o.dst (.slice (.tag g) x.length (cl x)) fr) H1 K)
  (hs:ev fr a=some (.slice (.tag g) l.length (cl l)):=by exact rfl) (hw:E5 ops o fr=some true:=by exact rfl) (ht:at_.toList=[t,xt]:=by exact rfl) (hv:ev fr b=some v:=by exact rfl)
  (h1:K9 t env.T=some yt:=by exact rfl) (h2:K9 xt env.T=some yx:=by exact rfl) (h3:yt.sh=.slice e:=by exact rfl) (h4:a9r yx.sh=true:=by exact rfl) (h5:K9 e env.T=some ye:=by exact rfl) (h6:ye.size=sz:=by exact rfl) (h7:ye.bytes=bytes:=by exact rfl) (h8:Nat.beq sz 0=false:=by exact rfl)
  (h9:a6M env.T e v H=some (m.length,cl m):=by exact(b5g (a3O rfl) rfl)) (h10:hget g H=some (.tip (tpe sz l.length) l.length):=by exact rfl):Os env orc ops (o::rest) fr H K:=by
 obtain⟨x,g1,g2⟩:=a4d h;obtain⟨H1,g3,g4⟩:=hk x g2;exact c4x he.e g1 hw ho ha ht hs hv h1 h2 h3 h4 h5 h6 h7 h8 h9 hm h10 g3 g4
theorem k_appD (ho:o.op=.call ⟨.builtin .append,args,at_⟩)(h:(app bytes l m).bind k=some y)(ha:args.toList=[a,b])(hs:ev fr a=some (.slice (.tag g) l.length (cl l))) [he:b4s cl sz c1] (hv:ev fr b=some (.slice w2 m.length (cl m)))
  (hk:∀x,k x=some y -> ∃H1,a0O (some (hset g (.tip (tpe sz x.length) x.length) H))=some H1/\Os env orc ops rest (V9 o.dst (.slice (.tag g) x.length (cl x)) fr) H1 K)
  (hw:E5 ops o fr=some true:=by exact rfl) (ht:at_.toList=[t,xt]:=by exact rfl)
  (h1:K9 t env.T=some yt:=by exact rfl) (h2:K9 xt env.T=some yx:=by exact rfl) (h3:yt.sh=.slice e:=by exact rfl) (h4:a9r yx.sh=true:=by exact rfl) (h5:K9 e env.T=some ye:=by exact rfl) (h6:ye.size=sz:=by exact rfl) (h7:ye.bytes=bytes:=by exact rfl) (h8:Nat.beq sz 0=false:=by exact rfl)
  (h10:hget g H=some (.tip (tpe sz l.length) l.length):=by exact rfl) (hS:a0O (some (hset g (.tip (tpe sz l.length) l.length) H))=some H:=by exact rfl):Os env orc ops (o::rest) fr H K:=by
 obtain⟨x,g1,g2⟩:=a4d h;have h9:a6M env.T e (.slice w2 m.length (cl m)) H=some (m.length,cl m):=by
  have:=he.e.length m;subst h6;simp only[a6M,h5];exact b5g (a3O this.symm) rfl
 obtain⟨H1,g3,g4⟩:=hk x g2;exact c57 he.e g1 hw ho ha ht hs hv h1 h2 h3 h4 h5 h6 h7 h8 h9 h10 hS g3 g4
theorem k_appU (ho:o.op=.call ⟨.builtin .append,args,at_⟩)(h:(app bytes l m).bind k=some y)(ha:args.toList=[a,b]) [he:b3W α cl sz c1] (hv:ev fr b=some (.slice w2 m.length (cl m)))
  (hk:∀x,k x=some y -> ∃H1,a0O (some (hset g (.tip (tpe sz x.length) x.length) H))=some H1/\Os env orc ops rest (V9 o.dst (.slice (.tag g) x.length (cl x)) fr) H1 K)
  (hs:ev fr a=some (.slice (.tag g) l.length (cl l)):=by exact rfl) (hw:E5 ops o fr=some true:=by exact rfl) (ht:at_.toList=[t,xt]:=by exact rfl)
  (h1:K9 t env.T=some yt:=by exact rfl) (h2:K9 xt env.T=some yx:=by exact rfl) (h3:yt.sh=.slice e:=by exact rfl) (h4:a9r yx.sh=true:=by exact rfl) (h5:K9 e env.T=some ye:=by exact rfl) (h6:ye.size=sz:=by exact rfl) (h7:ye.bytes=bytes:=by exact rfl) (h8:Nat.beq sz 0=false:=by exact rfl)
  (h10:hget g H=some (.tip (tpe sz l.length) l.length):=by exact rfl) (hS:a0O (some (hset g (.tip (tpe sz l.length) l.length) H))=some H:=by exact rfl):Os env orc ops (o::rest) fr H K:=by
 obtain⟨x,g1,g2⟩:=a4d h;have h9:a6M env.T e (.slice w2 m.length (cl m)) H=some (m.length,cl m):=by
  have:=he.e.length m;subst h6;simp only[a6M,h5];exact b5g (a3O this.symm) rfl
 obtain⟨H1,g3,g4⟩:=hk x g2;exact c57 he.e g1 hw ho ha ht hs hv h1 h2 h3 h4 h5 h6 h7 h8 h9 h10 hS g3 g4
theorem k_appN (ho:o.op=.call ⟨.builtin .append,args,at_⟩)(h:(app bytes l m).bind k=some y)(ha:args.toList=[a,b])(how:w=.nil∨w=.full) [he:b3W α cl sz c1]
  (hm:Nat.beq m.length 0=false) (hk:∀x,k x=some y -> ∃H1,a0O (some (hset (newName o) (.tip (tpe sz x.length) x.length) H))=some H1/\Os env orc ops rest (V9 o.dst (.slice (.tag (newName o)) x.length (cl x)) fr) H1 K)
  (hs:ev fr a=some (.slice w l.length (cl l)):=by exact rfl) (hw:E5 ops o fr=some true:=by exact rfl) (ht:at_.toList=[t,xt]:=by exact rfl) (hv:ev fr b=some v:=by exact rfl)
  (h1:K9 t env.T=some yt:=by exact rfl) (h2:K9 xt env.T=some yx:=by exact rfl) (h3:yt.sh=.slice e:=by exact rfl) (h4:a9r yx.sh=true:=by exact rfl) (h5:K9 e env.T=some ye:=by exact rfl) (h6:ye.size=sz:=by exact rfl) (h7:ye.bytes=bytes:=by exact rfl) (h8:Nat.beq sz 0=false:=by exact rfl)
  (h9:a6M env.T e v H=some (m.length,cl m):=by exact(b5g (a3O rfl) rfl)) (h10:hget (newName o) H=none:=by exact rfl):Os env orc ops (o::rest) fr H K:=by
 obtain⟨x,g1,g2⟩:=a4d h;obtain⟨H1,g3,g4⟩:=hk x g2;exact c58 he.e g1 hw ho ha ht how hs hv h1 h2 h3 h4 h5 h6 h7 h8 h9 hm h10 g3 g4
theorem k_appF (ho:o.op=.call ⟨.builtin .append,args,at_⟩)(h:(app bytes l m).bind k=some y)(ha:args.toList=[a,b])(how:w=.nil/\l=[]∨w=.full/\leN 1 l.length=true) [he:b3W α cl sz c1] (hv:ev fr b=some (.slice w2 m.length (cl m)))
  (hk:∀x,k x=some y -> ∃H1,a0O (some (hset (newName o) (.tip (tpe sz x.length) x.length) H))=some H1/\Os env orc ops rest (V9 o.dst (.slice (.tag (newName o)) x.length (cl x)) fr) H1 K)
  (hs:ev fr a=some (.slice w l.length (cl l)):=by exact rfl) (hw:E5 ops o fr=some true:=by exact rfl) (ht:at_.toList=[t,xt]:=by exact rfl)
  (h1:K9 t env.T=some yt:=by exact rfl) (h2:K9 xt env.T=some yx:=by exact rfl) (h3:yt.sh=.slice e:=by exact rfl) (h4:a9r yx.sh=true:=by exact rfl) (h5:K9 e env.T=some ye:=by exact rfl) (h6:ye.size=sz:=by exact rfl) (h7:ye.bytes=bytes:=by exact rfl) (h8:Nat.beq sz 0=false:=by exact rfl)
  (h10:hget (newName o) H=none:=by exact rfl):Os env orc ops (o::rest) fr H K:=by
 obtain⟨x,g1,g2⟩:=a4d h;have h9:a6M env.T e (.slice w2 m.length (cl m)) H=some (m.length,cl m):=by
  have:=he.e.length m;subst h6;simp only[a6M,h5];exact b5g (a3O this.symm) rfl
 obtain⟨H1,g3,g4⟩:=hk x g2;exact os_appF he.e g1 hw ho ha ht how hs hv h1 h2 h3 h4 h5 h6 h7 h8 h9 h10 g3 g4
end
end
def takeC:Nat->List V->Option (List V)
 | 0,_=>some []
 | n+1,c::cs=>match takeC n cs with
  | some r=>some (c::r)
  | none=>none
 | _+1,[]=>none
theorem c3c:∀{n:Nat} {cs c:List V},takeC n cs=some c->c.length=n /\ ∃r,cs=c++r
 | 0,cs,c,h=>by cases h;exact⟨rfl,cs,rfl⟩
 | n+1,[],c,h=>by cases h
 | n+1,d::cs,c,h=>by
  unfold takeC at h;split at h
  ·rename_i r hr;cases h;obtain⟨h1,q,h2⟩:=c3c hr;exact⟨by rw[List.length_cons,h1],q,by rw[h2];rfl⟩
  ·cases h
theorem k_loadA {t:Nat}{a:Operand}{c c':List V}{y:Ty}(ho:o.op=.load t a)(ha:ev fr a=some (.cptr cs))(h1:K9 t env.T=some y)(h2:a1l y.sh=true)(hs:takeC y.size cs=some c)(hf:fL c some=some c')
  (h:Os env orc ops rest (V9 o.dst (.agg c') fr) H K) (hw:E5 ops o fr=some true:=by exact rfl):Os env orc ops (o::rest) fr H K:=by
 rw[c1W]at hf;cases hf;obtain⟨g1,r,g2⟩:=c3c hs;exact os_loadA hw ho ha g2 h1 h2 g1 h
theorem k_load0 {t:Nat}{a:Operand}(ho:o.op=.load t a)(ha:ev fr a=some (.cptr cs)){v:V}{H1:Hp}(hv:b7a (V5 env orc fr H o)=some (.val v H1))(h:Os env orc ops rest (V9 o.dst v fr) H1 K)(hw:E5 ops o fr=some true:=by exact rfl):Os env orc ops (o::rest) fr H K :=
 c4y hw (by rw[ho];rfl) hv h
theorem k_if {c:Operand}{a b:Code}{t:Bool}{γ:Type}{X Y z:γ}(hc:ev fr c=some (.bool t))(h:cond t X Y=z)(h1:t=true->X=z->Ev env orc f nr a fr H K)(h2:t=false->Y=z->Ev env orc f nr b fr H K):Ev env orc f nr (.cond c a b) fr H K:=by
 cases t with
 | true=>exact Z9 hc rfl (h1 rfl h)
 | false=>exact a02 hc rfl (h2 rfl h)
theorem k_guard {j d:Nat}{w c:Bool}{fr':Fr}{γ:Type}{X Y z:γ}(h:cond c X Y=z)(hg:o.guard=some (j,w))(hd:(ops[j]?).bind (·.dst)=some d)(hf:fr =(d,.bool c)::fr')
  (h1:c=true->X=z->Os env orc ops (o::rest) ((d,.bool true)::fr') H K) (h2:c=false->Y=z->Os env orc ops (o::rest) ((d,.bool false)::fr') H K):Os env orc ops (o::rest) fr H K:=by
 subst hf;cases c with
 | true=>exact h1 rfl h
 | false=>exact h2 rfl h
theorem k_gd {b:Bool}{γ:Type}{X:Option γ}{z:γ}{G:Prop}(h:gdO b X=some z)(h1:b=true->X=some z->G):G:=by
 obtain⟨h2,h3⟩:=gdO_inv h;exact h1 h2 h3
structure Jn (i:Nat)(α:Type) where
 j:Fr->Hp->α->Fr×Hp
theorem a9s {α γ:Type}{a b:Code}{A:Option α}{k:α->Option γ}{y:γ}(J:Jn (a3b b) α)(h:A.bind k=some y)
  (hA:∀x,A=some x->Ev env orc f nr a fr H (segK env f nr (a3b b) (J.j fr H x).1 (J.j fr H x).2 K)) (hB:∀x,k x=some y->FE (J.j fr H x) fun fr H=>Ev env orc f nr b fr H K) (hc:env.cut f (a3b b)=true:=by exact rfl):Ev env orc f nr (.seq a b) fr H K:=by
 obtain⟨x,h1,h2⟩:=a4d h;exact ev_seg _ _ hc (hA x h1) (FE_ok (hB x h2))
theorem a6t {α:Type}{a b:Code}{A:Option (Lr α ρ)}{k:α->Option ρ}{y:ρ}(KR:ρ->Res->Prop)(J:Jn (a3b b) α)(h:a0X A k=some y)
  (hA:∀x,A=some x->Ev env orc f nr a fr H (segL env f nr (a3b b) x (fun x=>(J.j fr H x).1) (fun x=>(J.j fr H x).2) KR)) (hB:∀x,k x=some y->FE (J.j fr H x) fun fr H=>Ev env orc f nr b fr H K) (hR:∀r,KR y r->r.1 ≠ .normal->K r:=by exact(fun r hr hn=>by obtain⟨e,fr1,H1⟩:=r;cases e<;>first|exact absurd rfl hn|exact hr.elim|exact hr)) (hc:env.cut f (a3b b)=true:=by exact rfl):Ev env orc f nr (.seq a b) fr H K:=by
 obtain⟨x,h1,h2⟩:=c6I h;refine c5D x _ _ hc (hA x h1) (fun z hz=>?_) (fun z r hz hr hn=>?_)
 ·subst hz;exact FE_ok (hB z h2)
 ·subst hz;cases h2;exact hR r hr hn
theorem a6u {α γ:Type}{a b:Code}{A:Option (Lr α ρ)}{k:α->Option (Lr γ ρ)}{y:Lr γ ρ}(KR:ρ->Res->Prop)(J:Jn (a3b b) α)(h:a7T A k=some y)
  (hA:∀x,A=some x->Ev env orc f nr a fr H (segL env f nr (a3b b) x (fun x=>(J.j fr H x).1) (fun x=>(J.j fr H x).2) KR)) (hB:∀x,k x=some y->FE (J.j fr H x) fun fr H=>Ev env orc f nr b fr H K) (hR:∀z r,y=.out z->KR z r->r.1 ≠ .normal->K r:=by exact(fun z r hz hr hn=>by obtain⟨e,fr1,H1⟩:=r;subst hz;cases e<;>first|exact absurd rfl hn|exact hr.elim|exact⟨_,rfl,hr⟩)) (hc:env.cut f (a3b b)=true:=by exact rfl):Ev env orc f nr (.seq a b) fr H K:=by
 obtain⟨x,h1,h2⟩:=c6K h;refine c5D x _ _ hc (hA x h1) (fun z hz=>?_) (fun z r hz hr hn=>?_)
 ·subst hz;exact FE_ok (hB z h2)
 ·subst hz;cases h2;exact hR z r rfl hr hn
theorem k_lp {σ ρ:Type}{body:Code}{g:Nat->σ->Option ρ}{y:ρ}(J:σ->Fr×Hp)(h0:∀x,g 0 x=none)
  (hr:∀m,(∀x',g m x'=some y->Lp env f nr body (J x').1 (J x').2 K) -> ∀x,g (m+1) x=some y->FE (J x) fun fr H=>Ev env (E env) f nr body fr H (a8Z env f nr body K)):∀m x,g m x=some y->Lp env f nr body (J x).1 (J x).2 K
 | 0,x,h=>by rw[h0]at h;cases h
 | m+1,x,h=>c2t (FE_ok (hr m (fun x' h'=>k_lp J h0 hr m x' h') x h))
theorem a5F {σ:Type}{g:Nat->σ->Option ρ}{s:σ}{y:ρ}(J:Jn (a1G body) σ)(h:g n s=some y)
  (hr:∀m,(∀{x'},g m x'=some y->Lp env f nr body (J.j fr H x').1 (J.j fr H x').2 K) -> ∀x,g (m+1) x=some y->FE (J.j fr H x) fun fr H=>Ev env (E env) f nr body fr H (a8Z env f nr body K)) (h0:∀x,g 0 x=none:=by intros;rfl) (hn:normal env f nr (a1G body) fr H=some (J.j fr H s):=by exact rfl):Ev env (E env) f nr (.loop body) fr H K :=
 a5D (fr1:=(J.j fr H s).1) (H1:=(J.j fr H s).2) hn (k_lp (J.j fr H) h0 (fun m ih x hx=>hr m (fun h=>ih _ h) x hx) n s h)
theorem b3a {g:Nat->σ1->σ2->Option ρ}{a1:σ1}{a2:σ2}{y:ρ}(J:Jn (a1G body) (σ1×σ2))(h:g n a1 a2=some y)
  (hr:∀m,(∀{b1 b2},g m b1 b2=some y->Lp env f nr body (J.j fr H (b1,b2)).1 (J.j fr H (b1,b2)).2 K) -> ∀a1 a2,g (m+1) a1 a2=some y->FE (J.j fr H (a1,a2)) fun fr H=>Ev env (E env) f nr body fr H (a8Z env f nr body K)) (h0:∀a1 a2,g 0 a1 a2=none:=by intros;rfl) (hn:normal env f nr (a1G body) fr H=some (J.j fr H (a1,a2)):=by exact rfl):Ev env (E env) f nr (.loop body) fr H K :=
 a5F (g:=fun m x=>g m x.1 x.2) (s:=(a1,a2)) J h (fun m ih x hx=>hr m (fun{b1 b2} h=>ih (x':=(b1,b2)) h) x.1 x.2 hx) (fun x=>h0 x.1 x.2) hn
theorem b3b {g:Nat->σ1->σ2->σ3->Option ρ}{a1:σ1}{a2:σ2}{a3:σ3}{y:ρ}(J:Jn (a1G body) (σ1×σ2×σ3))(h:g n a1 a2 a3=some y)
  (hr:∀m,(∀{b1 b2 b3},g m b1 b2 b3=some y->Lp env f nr body (J.j fr H (b1,b2,b3)).1 (J.j fr H (b1,b2,b3)).2 K) -> ∀a1 a2 a3,g (m+1) a1 a2 a3=some y->FE (J.j fr H (a1,a2,a3)) fun fr H=>Ev env (E env) f nr body fr H (a8Z env f nr body K)) (h0:∀a1 a2 a3,g 0 a1 a2 a3=none:=by intros;rfl) (hn:normal env f nr (a1G body) fr H=some (J.j fr H (a1,a2,a3)):=by exact rfl):Ev env (E env) f nr (.loop body) fr H K :=
 a5F (g:=fun m x=>g m x.1 x.2.1 x.2.2) (s:=(a1,a2,a3)) J h (fun m ih x hx=>hr m (fun{b1 b2 b3} h=>ih (x':=(b1,b2,b3)) h) x.1 x.2.1 x.2.2 hx) (fun x=>h0 x.1 x.2.1 x.2.2) hn
theorem b3c {g:Nat->σ1->σ2->σ3->σ4->Option ρ}{a1:σ1}{a2:σ2}{a3:σ3}{a4:σ4}{y:ρ}(J:Jn (a1G body) (σ1×σ2×σ3×σ4))(h:g n a1 a2 a3 a4=some y)
  (hr:∀m,(∀{b1 b2 b3 b4},g m b1 b2 b3 b4=some y->Lp env f nr body (J.j fr H (b1,b2,b3,b4)).1 (J.j fr H (b1,b2,b3,b4)).2 K) -> ∀a1 a2 a3 a4,g (m+1) a1 a2 a3 a4=some y->FE (J.j fr H (a1,a2,a3,a4)) fun fr H=>Ev env (E env) f nr body fr H (a8Z env f nr body K)) (h0:∀a1 a2 a3 a4,g 0 a1 a2 a3 a4=none:=by intros;rfl) (hn:normal env f nr (a1G body) fr H=some (J.j fr H (a1,a2,a3,a4)):=by exact rfl):Ev env (E env) f nr (.loop body) fr H K :=
 a5F (g:=fun m x=>g m x.1 x.2.1 x.2.2.1 x.2.2.2) (s:=(a1,a2,a3,a4)) J h (fun m ih x hx=>hr m (fun{b1 b2 b3 b4} h=>ih (x':=(b1,b2,b3,b4)) h) x.1 x.2.1 x.2.2.1 x.2.2.2 hx) (fun x=>h0 x.1 x.2.1 x.2.2.1 x.2.2.2) hn
theorem b3d {g:Nat->σ1->σ2->σ3->σ4->σ5->Option ρ}{a1:σ1}{a2:σ2}{a3:σ3}{a4:σ4}{a5:σ5}{y:ρ}(J:Jn (a1G body) (σ1×σ2×σ3×σ4×σ5))(h:g n a1 a2 a3 a4 a5=some y)
  (hr:∀m,(∀{b1 b2 b3 b4 b5},g m b1 b2 b3 b4 b5=some y->Lp env f nr body (J.j fr H (b1,b2,b3,b4,b5)).1 (J.j fr H (b1,b2,b3,b4,b5)).2 K) -> ∀a1 a2 a3 a4 a5,g (m+1) a1 a2 a3 a4 a5=some y->FE (J.j fr H (a1,a2,a3,a4,a5)) fun fr H=>Ev env (E env) f nr body fr H (a8Z env f nr body K)) (h0:∀a1 a2 a3 a4 a5,g 0 a1 a2 a3 a4 a5=none:=by intros;rfl) (hn:normal env f nr (a1G body) fr H=some (J.j fr H (a1,a2,a3,a4,a5)):=by exact rfl):Ev env (E env) f nr (.loop body) fr H K :=
 a5F (g:=fun m x=>g m x.1 x.2.1 x.2.2.1 x.2.2.2.1 x.2.2.2.2) (s:=(a1,a2,a3,a4,a5)) J h (fun m ih x hx=>hr m (fun{b1 b2 b3 b4 b5} h=>ih (x':=(b1,b2,b3,b4,b5)) h) x.1 x.2.1 x.2.2.1 x.2.2.2.1 x.2.2.2.2 hx) (fun x=>h0 x.1 x.2.1 x.2.2.1 x.2.2.2.1 x.2.2.2.2) hn
theorem b3e {g:Nat->σ1->σ2->σ3->σ4->σ5->σ6->Option ρ}{a1:σ1}{a2:σ2}{a3:σ3}{a4:σ4}{a5:σ5}{a6:σ6}{y:ρ}(J:Jn (a1G body) (σ1×σ2×σ3×σ4×σ5×σ6))(h:g n a1 a2 a3 a4 a5 a6=some y)
  (hr:∀m,(∀{b1 b2 b3 b4 b5 b6},g m b1 b2 b3 b4 b5 b6=some y->Lp env f nr body (J.j fr H (b1,b2,b3,b4,b5,b6)).1 (J.j fr H (b1,b2,b3,b4,b5,b6)).2 K) -> ∀a1 a2 a3 a4 a5 a6,g (m+1) a1 a2 a3 a4 a5 a6=some y->FE (J.j fr H (a1,a2,a3,a4,a5,a6)) fun fr H=>Ev env (E env) f nr body fr H (a8Z env f nr body K)) (h0:∀a1 a2 a3 a4 a5 a6,g 0 a1 a2 a3 a4 a5 a6=none:=by intros;rfl) (hn:normal env f nr (a1G body) fr H=some (J.j fr H (a1,a2,a3,a4,a5,a6)):=by exact rfl):Ev env (E env) f nr (.loop body) fr H K :=
 a5F (g:=fun m x=>g m x.1 x.2.1 x.2.2.1 x.2.2.2.1 x.2.2.2.2.1 x.2.2.2.2.2) (s:=(a1,a2,a3,a4,a5,a6)) J h (fun m ih x hx=>hr m (fun{b1 b2 b3 b4 b5 b6} h=>ih (x':=(b1,b2,b3,b4,b5,b6)) h) x.1 x.2.1 x.2.2.1 x.2.2.2.1 x.2.2.2.2.1 x.2.2.2.2.2 hx) (fun x=>h0 x.1 x.2.1 x.2.2.1 x.2.2.2.1 x.2.2.2.2.1 x.2.2.2.2.2) hn
theorem b3f {σ7:Type}{g:Nat->σ1->σ2->σ3->σ4->σ5->σ6->σ7->Option ρ}{a1:σ1}{a2:σ2}{a3:σ3}{a4:σ4}{a5:σ5}{a6:σ6}{a7:σ7}{y:ρ}(J:Jn (a1G body) (σ1×σ2×σ3×σ4×σ5×σ6×σ7))(h:g n a1 a2 a3 a4 a5 a6 a7=some y)
  (hr:∀m,(∀{b1 b2 b3 b4 b5 b6 b7},g m b1 b2 b3 b4 b5 b6 b7=some y->Lp env f nr body (J.j fr H (b1,b2,b3,b4,b5,b6,b7)).1 (J.j fr H (b1,b2,b3,b4,b5,b6,b7)).2 K) -> ∀a1 a2 a3 a4 a5 a6 a7,g (m+1) a1 a2 a3 a4 a5 a6 a7=some y->FE (J.j fr H (a1,a2,a3,a4,a5,a6,a7)) fun fr H=>Ev env (E env) f nr body fr H (a8Z env f nr body K)) (h0:∀a1 a2 a3 a4 a5 a6 a7,g 0 a1 a2 a3 a4 a5 a6 a7=none:=by intros;rfl) (hn:normal env f nr (a1G body) fr H=some (J.j fr H (a1,a2,a3,a4,a5,a6,a7)):=by exact rfl):Ev env (E env) f nr (.loop body) fr H K :=
 a5F (g:=fun m x=>g m x.1 x.2.1 x.2.2.1 x.2.2.2.1 x.2.2.2.2.1 x.2.2.2.2.2.1 x.2.2.2.2.2.2) (s:=(a1,a2,a3,a4,a5,a6,a7)) J h (fun m ih x hx=>hr m (fun{b1 b2 b3 b4 b5 b6 b7} h=>ih (x':=(b1,b2,b3,b4,b5,b6,b7)) h) x.1 x.2.1 x.2.2.1 x.2.2.2.1 x.2.2.2.2.1 x.2.2.2.2.2.1 x.2.2.2.2.2.2 hx) (fun x=>h0 x.1 x.2.1 x.2.2.1 x.2.2.2.1 x.2.2.2.2.1 x.2.2.2.2.2.1 x.2.2.2.2.2.2) hn
theorem callR_ok {v:V}{ns:List Nat}(h1:a5K (a1D (J3 ns (newName o)) dep v)=some v4)(h2:a0O (a1H (J3 ns (newName o)) H3 H)=some H4)(h3:a4e H H3 (newName o) ns.length=true)(h4:Os env orc ops rest (V9 o.dst v4 fr) H4 K):CallR env orc ops o rest fr H ns K (.ret v H3):=⟨_,_,h1,h2,h3,h4⟩
theorem c6N {v:V}{ns:List Nat}(h1:a5K (a1D (J3 ns (newName o)) dep v)=some v4)(h2:a0O (a1H (J3 ns (newName o)) H3 H)=some H4)(h3:a4e H H3 (newName o) ns.length=true)(h4:K (.panic v4,fr,H4)):CallR env orc ops o rest fr H ns K (.pan v H3):=⟨_,_,h1,h2,h3,h4⟩
theorem c7v {v v2:V}(h1:a1D a4J dep v=some v2)(h2:Os env orc ops rest (V9 o.dst v2 fr) H K):c3x env orc ops o rest fr H K (.ret v []):=⟨_,rfl,h1,h2⟩
theorem lookR_ok {v:V}{ns:List Nat}(h1:a5K (a1D (J3 ns (newName o)) dep v)=some v4)(h2:a0O (a1H (J3 ns (newName o)) H3 H)=some H)(h3:a4e H H3 (newName o) ns.length=true)(h4:Os env orc ops rest (V9 o.dst v4 fr) H K):LookR env orc ops o rest fr H ns K (.ret v H3):=⟨_,h1,h2,h3,h4⟩
theorem fe_ok {j:Fr×Hp}{G:Fr->Hp->Prop}{fr:Fr}{H:Hp}(h1:fF j.1 some=some fr)(h2:fH j.2 some=some H)(h:G fr H):FE j G:=⟨fr,H,h1,h2,h⟩
theorem c7c {id:Nat}{S:List Nat}(ls:Nat->List Nat)(hs:b3S env f id d=some (S,sl))(h:OsP env orc (ls id) sl ops (a7R ops S) fr H (sepK nr ops (ls id) sl K)):Ev env orc f nr (.region id ops d) fr H K:=c30 _ hs h
theorem kP_nil (h1:a8r sl fr=some L)(h2:K (.normal,fr,H)):OsP env orc L sl ops [] fr H (sepK nr ops L sl K):=osP_nil ⟨h1,h2⟩
end
attribute [irreducible] CallR c3x LookR FE
theorem osI {env:Env}{orc:Orc}{ops:Array Oper}{l:List Oper}{fr:Fr}{H:Hp}{K:Res->Prop}(h:Os env orc ops l fr H K):Os env orc ops l fr H K:=h
theorem evI {env:Env}{orc:Orc}{f nr:Nat}{c:Code}{fr:Fr}{H:Hp}{K:Res->Prop}(h:Ev env orc f nr c fr H K):Ev env orc f nr c fr H K:=h
theorem opI {env:Env}{orc:Orc}{ops:Array Oper}{l:List Oper}{fr:Fr}{H:Hp}{K:Res->Prop}(h:OsP env orc L sl ops l fr H K):OsP env orc L sl ops l fr H K:=h
theorem os_nilE {env:Env}{orc:Orc}{f nr:Nat}{ops:Array Oper}{b:Code}{fr:Fr}{H:Hp}{K:Res->Prop}(h:Ev env orc f nr b fr H K):Os env orc ops [] fr H (regK d (thenK env orc f nr b K)):=G5 h
theorem blk {P:Prop}(x:P:=by
  repeat' first
  |(with_reducible intro(h:_=some _))
  | with_reducible refine AllC.all ?_
  | with_reducible intro _
  |((with_reducible refine osI ?_);first
    | refine oR rfl rfl ?_
    | refine os_nilE ?_
    | refine G5 ?_
    | refine k_call rfl h rfl rfl rfl rfl rfl ?_
    | refine k_call rfl (bindP_b h) rfl rfl rfl rfl rfl ?_
    | refine k_quiet rfl h rfl rfl rfl rfl rfl ?_
    | refine k_look rfl h rfl rfl rfl rfl rfl rfl ?_
    | refine k_idx rfl h rfl ?_
    | refine k_loadA rfl rfl rfl rfl rfl rfl ?_
    | refine k_load0 rfl rfl rfl ?_
    |(refine k_app rfl h rfl rfl rfl (fun _ h=>?_);refine⟨_,rfl,?_⟩)
    |(refine k_appT rfl h rfl rfl (fun _ h=>?_);refine⟨_,rfl,?_⟩)
    |(refine k_appN rfl h rfl (.inl rfl) rfl (fun _ h=>?_);refine⟨_,rfl,?_⟩)
    |(refine k_appN rfl h rfl (.inr rfl) rfl (fun _ h=>?_);refine⟨_,rfl,?_⟩)
    |(refine k_appD rfl h rfl rfl rfl (fun _ h=>?_);refine⟨_,rfl,?_⟩)
    |(refine k_appU rfl h rfl rfl (fun _ h=>?_);refine⟨_,rfl,?_⟩)
    |(refine k_appF rfl h rfl (.inl ⟨rfl,rfl⟩) rfl (fun _ h=>?_);refine⟨_,rfl,?_⟩)
    |(refine k_appF rfl h rfl (.inr ⟨rfl,b2u (Nat.succ_le_succ (Nat.zero_le _))⟩) rfl (fun _ h=>?_);refine⟨_,rfl,?_⟩)
    | refine k_idxS rfl h ?_
    | refine k_cat rfl h ?_
    | refine k_subS rfl h ?_
    | refine k_subL rfl h rfl ?_
    | refine c6c rfl ?_
    | refine l7 rfl rfl rfl ?_
    | refine c2y rfl rfl rfl ?_
    | refine c6a (m:=[]) (ek:=V.int .i64) (eb:=V.str) (b0B _) rfl rfl rfl rfl rfl rfl rfl rfl rfl rfl rfl rfl ?_
    | refine c6a (ek:=V.int .i64) (eb:=V.str) (b0B _) rfl rfl rfl rfl rfl rfl rfl rfl rfl rfl rfl rfl ?_
    | refine c4y rfl rfl rfl ?_
    | refine os_pickT rfl rfl rfl (by assumption) rfl ?_
    | refine os_pickF rfl rfl rfl (by assumption) rfl ?_
    | refine k_guard h rfl rfl rfl (fun e h=>?_) (fun e h=>?_)
    |(refine k_gd h (fun e h=>?_);refine l7 rfl rfl (a3a e rfl) ?_)
    | refine os_panic rfl rfl rfl ?_
    | refine c6b (ek:=V.int .i64) (eb:=V.bool) (d:=false) (b0B _) rfl rfl rfl rfl rfl rfl rfl rfl rfl rfl rfl ?_
    | refine os_mapU (ek:=V.int .i64) (eb:=V.bool) (b0B _) rfl rfl rfl rfl rfl rfl rfl rfl rfl rfl rfl rfl ?_
    | refine c6b (ek:=V.int .i64) (eb:=V.str) (d:=[]) (b0B _) rfl rfl rfl rfl rfl rfl rfl rfl rfl rfl rfl ?_
    | refine os_toStr rfl rfl rfl rfl rfl rfl rfl rfl rfl ?_
    | refine os_ofStr rfl rfl rfl rfl rfl rfl rfl rfl rfl ?_)
  |((with_reducible refine evI ?_);first
    | refine eSG ?_
    | refine k_if rfl h (fun e h=>?_) (fun e h=>?_)
    | refine L8 ?_
    | refine a4x ?_
    | refine H9 ?_
    | refine V4 ?_
    | refine o7 ?_
    | refine F7 ?_
    | refine Z9 rfl rfl ?_
    | refine a02 rfl rfl ?_
    | refine Z9 rfl (by assumption) ?_
    | refine a02 rfl (by assumption) ?_
    | refine c7c ls rfl ?_
    | refine a9s jn1 h ?_ ?_|refine a6t kr jn1 h ?_ ?_|refine a6u kr jn1 h ?_ ?_
     | refine a9s jn2 h ?_ ?_|refine a6t kr jn2 h ?_ ?_|refine a6u kr jn2 h ?_ ?_
     | refine a9s jn3 h ?_ ?_|refine a6t kr jn3 h ?_ ?_|refine a6u kr jn3 h ?_ ?_
     | refine a9s jn4 h ?_ ?_|refine a6t kr jn4 h ?_ ?_|refine a6u kr jn4 h ?_ ?_
     | refine a9s jn5 h ?_ ?_|refine a6t kr jn5 h ?_ ?_|refine a6u kr jn5 h ?_ ?_
     | refine a9s jn6 h ?_ ?_|refine a6t kr jn6 h ?_ ?_|refine a6u kr jn6 h ?_ ?_
     | refine a9s jn7 h ?_ ?_|refine a6t kr jn7 h ?_ ?_|refine a6u kr jn7 h ?_ ?_
     | refine a9s jn8 h ?_ ?_|refine a6t kr jn8 h ?_ ?_|refine a6u kr jn8 h ?_ ?_
     | refine a9s jn9 h ?_ ?_|refine a6t kr jn9 h ?_ ?_|refine a6u kr jn9 h ?_ ?_
     | refine a9s jn10 h ?_ ?_|refine a6t kr jn10 h ?_ ?_|refine a6u kr jn10 h ?_ ?_
     | refine a9s jn11 h ?_ ?_|refine a6t kr jn11 h ?_ ?_|refine a6u kr jn11 h ?_ ?_
     | refine a9s jn12 h ?_ ?_|refine a6t kr jn12 h ?_ ?_|refine a6u kr jn12 h ?_ ?_
     | refine a9s jn13 h ?_ ?_|refine a6t kr jn13 h ?_ ?_|refine a6u kr jn13 h ?_ ?_
     | refine a9s jn14 h ?_ ?_|refine a6t kr jn14 h ?_ ?_|refine a6u kr jn14 h ?_ ?_
    | refine a5F jl1 h (fun m ih=>?_)
     | refine b3a jl1 h (fun m ih=>?_)
     | refine b3b jl1 h (fun m ih=>?_)
     | refine b3c jl1 h (fun m ih=>?_)
     | refine b3d jl1 h (fun m ih=>?_)
     | refine b3e jl1 h (fun m ih=>?_)
     | refine b3f jl1 h (fun m ih=>?_)
     | refine a5F jl2 h (fun m ih=>?_)
     | refine b3a jl2 h (fun m ih=>?_)
     | refine b3b jl2 h (fun m ih=>?_)
     | refine b3c jl2 h (fun m ih=>?_)
     | refine b3d jl2 h (fun m ih=>?_)
     | refine b3e jl2 h (fun m ih=>?_)
     | refine b3f jl2 h (fun m ih=>?_)
     | refine a5F jl3 h (fun m ih=>?_)
     | refine b3a jl3 h (fun m ih=>?_)
     | refine b3b jl3 h (fun m ih=>?_)
     | refine b3c jl3 h (fun m ih=>?_)
     | refine b3d jl3 h (fun m ih=>?_)
     | refine b3e jl3 h (fun m ih=>?_)
     | refine b3f jl3 h (fun m ih=>?_)
     | refine a5F jl4 h (fun m ih=>?_)
     | refine b3a jl4 h (fun m ih=>?_)
     | refine b3b jl4 h (fun m ih=>?_)
     | refine b3c jl4 h (fun m ih=>?_)
     | refine b3d jl4 h (fun m ih=>?_)
     | refine b3e jl4 h (fun m ih=>?_)
     | refine b3f jl4 h (fun m ih=>?_)
     | refine a5F jl5 h (fun m ih=>?_)
     | refine b3a jl5 h (fun m ih=>?_)
     | refine b3b jl5 h (fun m ih=>?_)
     | refine b3c jl5 h (fun m ih=>?_)
     | refine b3d jl5 h (fun m ih=>?_)
     | refine b3e jl5 h (fun m ih=>?_)
     | refine b3f jl5 h (fun m ih=>?_)
     | refine a5F jl6 h (fun m ih=>?_)
     | refine b3a jl6 h (fun m ih=>?_)
     | refine b3b jl6 h (fun m ih=>?_)
     | refine b3c jl6 h (fun m ih=>?_)
     | refine b3d jl6 h (fun m ih=>?_)
     | refine b3e jl6 h (fun m ih=>?_)
     | refine b3f jl6 h (fun m ih=>?_)
    )
  |((with_reducible refine opI ?_);first
    | refine kP_nil rfl ?_
    | refine c2w rfl ?_
    | refine osP_cons rfl ?_)
  | refine callR_ok rfl rfl rfl ?_
  | refine c6N rfl rfl rfl ?_
  | refine c7v rfl ?_
  | refine lookR_ok rfl rfl rfl ?_
  | refine fe_ok rfl rfl ?_
  |((fail_if_success (with_reducible refine evI ?_));refine evI ?_)
  |((fail_if_success (with_reducible refine opI ?_));refine opI ?_)
  |((fail_if_success (with_reducible refine osI ?_));refine osI ?_)
  |(cases h;first
    | exact⟨_,_,_,rfl,rfl,rfl⟩
    | exact⟨_,_,rfl,rfl⟩
    | exact rfl
    | exact⟨_,rfl,rfl⟩
    | exact⟨_,rfl,_,_,_,rfl,rfl,rfl⟩
    | exact⟨_,rfl,_,_,rfl,rfl⟩
    | exact⟨rfl,rfl,_,_,rfl,_,_,rfl,rfl⟩
    | exact⟨rfl,rfl,_,_,rfl,_,rfl,_,_,rfl,rfl⟩)
  | exact⟨_,_,rfl,ih h⟩
  | exact trivial
  | refine And.intro ?_ ?_):P:=x
end Go.Vm
namespace Go.Proofs.YtjhfloacokgdiaaGreatDoor
open Go Go.Vm
structure Flt where
 code:Int
 at_:Int
def c1Flt (x:Flt):List V:=[.int .i64 x.code,.int .i64 x.at_]
def b6Q:List Flt->List V | []=>[]|x::r=>.int .i64 x.code :: .int .i64 x.at_::b6Q r
theorem encFlt:a3D 2 c1Flt b6Q:=⟨fun _=>rfl,rfl,fun _ _=>rfl⟩
instance:b4s b6Q 2 c1Flt:=⟨encFlt⟩
instance:b3W Flt b6Q 2 c1Flt:=⟨encFlt⟩
structure Typ where
 kind:Int
 name:Str
 n:Int
 args:List Typ
mutual
def Typ.sub:Typ->List V
 |⟨_,_,_,a3⟩=>D8 a3
def D8:List Typ->List V
 | []=>[]
 | x::r=>.int .i64 x.kind :: .str x.name :: .int .i64 x.n :: .slice .sealed (List.length x.args) (x.sub)::D8 r
end
def c1Typ (x:Typ):List V:=[.int .i64 x.kind,.str x.name,.int .i64 x.n,.slice .sealed (List.length x.args) (D8 x.args)]
theorem encTyp:a3D 4 c1Typ D8:=⟨fun _=>rfl,rfl,fun x r=>by cases x;rfl⟩
instance:b4s D8 4 c1Typ:=⟨encTyp⟩
instance:b3W Typ D8 4 c1Typ:=⟨encTyp⟩
structure Nod where
 op:Int
 s:Str
 n:Int
 t:Typ
 ts:List Typ
 l:List Nod
 at_:Int
mutual
def Nod.sub:Nod->List V
 |⟨_,_,_,_,_,a5,_⟩=>D9 a5
def D9:List Nod->List V
 | []=>[]
 | x::r=>.int .i64 x.op :: .str x.s :: .int .i64 x.n :: .int .i64 x.t.kind :: .str x.t.name :: .int .i64 x.t.n :: .slice .sealed (List.length x.t.args) (D8 x.t.args) :: .slice .sealed (List.length x.ts) (D8 x.ts) :: .slice .sealed (List.length x.l) (x.sub) :: .int .i64 x.at_::D9 r
end
def b8R (x:Nod):List V:=[.int .i64 x.op,.str x.s,.int .i64 x.n,.int .i64 x.t.kind,.str x.t.name,.int .i64 x.t.n,.slice .sealed (List.length x.t.args) (D8 x.t.args),.slice .sealed (List.length x.ts) (D8 x.ts),.slice .sealed (List.length x.l) (D9 x.l),.int .i64 x.at_]
theorem b98:a3D 10 b8R D9:=⟨fun _=>rfl,rfl,fun x r=>by cases x;rfl⟩
instance:b4s D9 10 b8R:=⟨b98⟩
instance:b3W Nod D9 10 b8R:=⟨b98⟩
structure Tok where
 kind:Int
 text:Str
 at_:Int
 len:Int
def c1Tok (x:Tok):List V:=[.int .i64 x.kind,.str x.text,.int .i64 x.at_,.int .i64 x.len]
def A8:List Tok->List V | []=>[]|x::r=>.int .i64 x.kind :: .str x.text :: .int .i64 x.at_ :: .int .i64 x.len::A8 r
theorem c3V:a3D 4 c1Tok A8:=⟨fun _=>rfl,rfl,fun _ _=>rfl⟩
instance:b4s A8 4 c1Tok:=⟨c3V⟩
instance:b3W Tok A8 4 c1Tok:=⟨c3V⟩
structure o6 where
 fault:Flt
def b0H (x:o6):List V:=[.int .i64 x.fault.code,.int .i64 x.fault.at_]
def a8h:List o6->List V | []=>[]|x::r=>.int .i64 x.fault.code :: .int .i64 x.fault.at_::a8h r
theorem b3L:a3D 2 b0H a8h:=⟨fun _=>rfl,rfl,fun _ _=>rfl⟩
instance:b4s a8h 2 b0H:=⟨b3L⟩
instance:b3W o6 a8h 2 b0H:=⟨b3L⟩
structure G6 where
 ops:List Str
 once:Bool
def a9E (x:G6):List V:=[.slice .sealed (List.length x.ops) (clS x.ops),.bool x.once]
def a1E:List G6->List V | []=>[]|x::r=>.slice .sealed (List.length x.ops) (clS x.ops) :: .bool x.once::a1E r
theorem b2k:a3D 2 a9E a1E:=⟨fun _=>rfl,rfl,fun _ _=>rfl⟩
instance:b4s a1E 2 a9E:=⟨b2k⟩
instance:b3W G6 a1E 2 a9E:=⟨b2k⟩
instance:AllC Typ (fun P=>∀a0 a1 a2 a3,P ⟨a0,a1,a2,a3⟩):=⟨fun h x=>by obtain⟨a0,a1,a2,a3⟩:=x;exact h a0 a1 a2 a3⟩
instance:AllC Nod (fun P=>∀a0 a1 a2 a3 a4 a5 a6 a7 a8 a9,P ⟨a0,a1,a2,⟨a3,a4,a5,a6⟩,a7,a8,a9⟩):=⟨fun h x=>by obtain⟨a0,a1,a2,⟨a3,a4,a5,a6⟩,a7,a8,a9⟩:=x;exact h a0 a1 a2 a3 a4 a5 a6 a7 a8 a9⟩
end Go.Proofs.YtjhfloacokgdiaaGreatDoor
