/- What the functions under ParseTypeBack compute, step by step, as functions in Lean: texts that were built one by one, joined. -/
import Derived.Test.YtamfchbgonekeaaGreatDoorParseTypeBackJ1
import Derived.Below
import Derived.KernelRfl
import Derived.Test.YtamfchbgonekeaaGreatDoorProg
set_option maxRecDepth 100000
set_option maxHeartbeats 20000000
set_option linter.unusedSimpArgs false
set_option linter.unusedVariables false
set_option linter.unusedSectionVars false
namespace Go.Vm
section
variable {P:Program} {T:List (Nat × Ty)} {ρ ρ':Rho} {lab:Lab} {w:World} {H:Hp} {fr:Fr} {a:Act} {n nr:Nat} {env:Env} {orc:Orc}
theorem Rel.a1l {v:V} {x:Value} (h:Rel ρ lab w v x):Rel ρ lab w (a5T v) x:=by
 cases h with
 | slice ow n cells xs b o ao cap g1 g2 g3 g4 g5 g6 g7 g8 g9=>exact .slice .sealed n cells xs b o ao cap g1 g2 g3 g4 g5 g6 trivial g8 g9
 | undef=>exact .undef _
 | bool=>exact .bool _
 | int=>exact .int _ _
 | str=>exact .str _
 | nilptr=>exact .nilptr
 | ptr r off b o c h=>exact .ptr r off b o c h
 | cptr cells xs b o h1 h2 h3 h4=>exact .cptr cells xs b o h1 h2 h3 h4
 | rslice r off n wh base g ao cap h1 h2 h3 h4 h5=>exact .rslice r off n wh base g ao cap h1 h2 h3 h4 h5
 | func fn a c xs ys h1 h2 h3 h4=>exact .func fn a c xs ys h1 h2 h3 h4
 | nilFunc=>exact .nilFunc
 | iface t v x h=>exact .iface t v x h
 | nilIface=>exact .nilIface
 | opq m=>exact .opq m
 | agg cells xs h1 h2=>exact .agg cells xs h1 h2
 | tuple cells xs h1 h2=>exact .tuple cells xs h1 h2
theorem b2q {f:V -> V} (hf:∀ v x,Rel ρ lab w v x -> Rel ρ lab w (f v) x) {vs:List V} {xs:List Value} (h:o8 ρ lab w vs xs):o8 ρ lab w (vs.map f) xs:=by
 refine ⟨by rw [List.length_map]; exact h.1,fun i v x hv hx=>?_⟩
 rw [List.getElem?_map,Option.map_eq_some_iff] at hv
 obtain ⟨u,hu,rfl⟩:=hv
 exact hf u x (h.2 i u x hu hx)
theorem o8.a1l {vs:List V} {xs:List Value} (h:o8 ρ lab w vs xs):o8 ρ lab w (vs.map a5T) xs:=b2q (fun _ _ h=>h.a1l) h
theorem Rel.a5S {v:V} {x:Value} (h:Rel ρ lab w v x):Rel ρ lab w (a2O v) x:=by
 cases v with
 | agg cs=>cases h with | agg _ xs h1 h2=>have:=o8.a1l (ρ:=ρ) (lab:=lab) (w:=w) ⟨h1,h2⟩; exact .agg _ xs this.1 this.2
 | _=>exact h.a1l
theorem o8.b1u:∀ {vs:List V} {i:Nat} {xs:List Value},o8 ρ lab w vs xs -> o8 ρ lab w (a8E i vs) xs
 | [],i,_,h=>by cases i <;> exact h
 | v :: r,0,xs,h=>by
  obtain ⟨x,xr,rfl,h1,h2⟩:=l9.1 h
  exact l9.2 ⟨x,xr,rfl,h1.a1l,h2⟩
 | v :: r,i + 1,xs,h=>by
  obtain ⟨x,xr,rfl,h1,h2⟩:=l9.1 h
  exact l9.2 ⟨x,xr,rfl,h1,o8.b1u h2⟩
theorem Sim.seal1 (hS:Sim ρ lab H w) {k j:Nat} {cs:List V} (hk:hget k H = some (.row cs)):Sim ρ lab (hset k (.row (a8E j cs)) H) w:=by
 refine Sim.mk' (fun i o hi=>?_) (fun i n' x h=>?_) (fun i x h=>?_) hS.ldom
 ·rw [l6] at hi
  split at hi
  ·rename_i he
   subst he
   cases hi
   obtain ⟨b,o,xs,g1,g2,g3⟩:=hS.row i cs hk
   exact ⟨b,o,xs,g1,g2.b1u,g3⟩
  ·exact hS.obj hi
 ·obtain ⟨e,m,g1,g2⟩:=hS.hdom i n' x h
  refine ⟨e,m,?_,g2⟩
  rw [l6,if_neg]
  ·exact g1
  ·rintro rfl; rw [hk] at g1; cases g1
 ·rw [l6]
  split
  ·simp
  ·exact hS.adom i x h
theorem Sim.a4j (fr:Fr):∀ (l:List (Nat × Nat)) {H:Hp},Sim ρ lab H w -> Sim ρ lab (a4j fr l H) w
 | [],_,hS=>hS
 | (s,j) :: r,H,hS=>by
  simp only [Vm.a4j]
  refine Sim.a4j fr r ?_
  split
  ·split
   ·rename_i hk; exact hS.seal1 hk
   ·exact hS
  ·split
   ·split
    ·rename_i hk; exact hS.seal1 hk
    ·exact hS
   ·exact hS
theorem a6Y (l:List (Nat × Nat)) (t:Nat) (x:Value):∀ {fr:Fr},Rel ρ lab w (look t fr) x -> Rel ρ lab w (look t (a8G l fr)) x
 | [],h=>h
 | (s,v) :: r,h=>by
  simp only [a8G]
  by_cases hs:s = t
  ·subst hs
   rw [X3] at h ⊢
   cases hasP (100000 + s) 0 l with
   | true=>exact h.a5S
   | false=>exact h
  ·rw [O4 hs] at h ⊢
   exact a6Y l t x h
structure Q7 (nr:Nat) (ρ ρ':Rho):Prop where
 at_:∀ k x,k < nr -> ρ.at_ k = some x -> ρ'.at_ k = some x
 hd:∀ k n x,k < nr -> ρ.hd k n = some x -> ρ'.hd k n = some x
theorem Q7.of_le (h:ρ.le ρ') (nr:Nat):Q7 nr ρ ρ':=⟨fun k x _ hx=>h.at_ k x hx,fun k n x _ hx=>h.hd k n x hx⟩
theorem Q7.trans {a b c:Rho} {n m:Nat} (h:Q7 n a b) (g:Q7 m b c) (hm:n <= m):Q7 n a c :=
 ⟨fun k x hk hx=>g.at_ k x (by omega) (h.at_ k x hk hx),fun k l x hk hx=>g.hd k l x (by omega) (h.hd k l x hk hx)⟩
theorem a6z:∀ {k nr:Nat} {ns:List Nat},a3r k nr ns = true -> ∀ i,i < nr -> ns[i]? = some (k + i)
 | _,0,_,_,i,hi=>by omega
 | _,_ + 1,[],h,_,_=>by cases h
 | k,n + 1,a :: r,h,i,hi=>by
  simp only [a3r,Bool.and_eq_true] at h
  cases i with
  | zero=>have:=Nat.eq_of_beq_eq_true h.1; simp [this]
  | succ i =>
   have:=a6z h.2 i (by omega)
   simp only [List.getElem?_cons_succ,this]
   congr 1; omega
theorem a4z {ns:List Nat} (h:a3r 0 nr ns = true):Q7 nr ρ (ρ.sub ns) where
 at_:=fun k x hk hx=>by have:=a6z h k hk; simp only [Nat.zero_add] at this; simp only [Rho.sub,this]; exact hx
 hd:=fun k n x hk hx=>by have:=a6z h k hk; simp only [Nat.zero_add] at this; simp only [Rho.sub,this]; exact hx
theorem a8y:∀ {k nr:Nat} {ns:List Nat},a3r k nr ns = true -> nr <= ns.length
 | _,0,_,_=>Nat.zero_le _
 | _,_ + 1,[],h=>by cases h
 | k,n + 1,a :: r,h=>by
  simp only [a3r,Bool.and_eq_true] at h
  have:=a8y h.2
  simp only [List.length_cons]; omega
theorem Sim.pick (hS:Sim ρ lab H w) {ns:List Nat} (hn:ns.Nodup) {H2:Hp} (hp:a0F H (idx · ns) ns 0 = some H2) {lab2:Lab}
  (hl0:∀ b o,lab b o = none -> lab2 b o = none) (hl1:∀ b o k i,lab b o = some (some k) -> idx k ns = some i -> lab2 b o = some (some i)) (hl2:∀ b o y,lab2 b o = some y -> lab b o ≠ none) :
  Ren (idx · ns) ρ (ρ.sub ns) lab lab2 /\ Sim (ρ.sub ns) lab2 H2 w:=by
 obtain ⟨c1,c2,c3⟩:=a2L hp
 have hR:Ren (idx · ns) ρ (ρ.sub ns) lab lab2:=⟨(a5P (lab:=lab) ns).at_,(a5P (lab:=lab) ns).hd,hl0⟩
 have hsome:∀ i k,ns[i]? = some k -> ∃ o o',hget k H = some o /\ a5n (idx · ns) o = some o' /\ hget i H2 = some o':=fun i k hk=>by
  have:=c3 i k hk
  simpa using this
 refine ⟨hR,Sim.mk' (fun j o hj=>?_) (fun j n' x h=>?_) (fun j x h=>?_) (fun b o j hl=>?_)⟩
 ·have hlt:=Y3 c1 j o hj
  have hjn:j < ns.length:=by omega
  obtain ⟨o1,o2,k1,k2,k3⟩:=hsome j ns[j] (by simp [hjn])
  rw [hj] at k3; cases k3
  have hidx:=a7r hn (show ns[j]? = some ns[j] from by simp [hjn])
  exact a0P.ren hR hidx (fun b p hl=>hl1 b p _ _ hl hidx) (hS.obj k1) k2
 ·simp only [Rho.sub,Option.bind_eq_some_iff] at h
  obtain ⟨k,hk,hx⟩:=h
  obtain ⟨e,m,g1,g2⟩:=hS.hdom k n' x hx
  obtain ⟨o1,o2,k1,k2,k3⟩:=hsome j k hk
  rw [g1] at k1; cases k1
  simp only [a5n] at k2; cases k2
  exact ⟨e,m,k3,g2⟩
 ·simp only [Rho.sub,Option.bind_eq_some_iff] at h
  obtain ⟨k,hk,hx⟩:=h
  obtain ⟨o1,o2,k1,k2,k3⟩:=hsome j k hk
  rw [k3]; simp
 ·have:=hl2 b o j hl
  cases hq:lab b o with
  | none=>exact absurd hq this
  | some y=>exact hS.ldom b o y hq
def Lab.drop (lab:Lab) (ns:List Nat):Lab:=fun b o=>match lab b o with
 | some (some k)=>(match idx k ns with | some i=>some (some i) | none=>none)
 | x=>x
theorem Sim.drop (hS:Sim ρ lab H w) {ns:List Nat} (hn:ns.Nodup) {H2:Hp} (hp:a0F H (idx · ns) ns 0 = some H2) :
  Ren (idx · ns) ρ (ρ.sub ns) lab (lab.drop ns) /\ Sim (ρ.sub ns) (lab.drop ns) H2 w /\ Ext lab w (lab.drop ns) w:=by
 have hl0:∀ b o,lab b o = none -> lab.drop ns b o = none:=fun b o h=>by simp only [Lab.drop,h]
 obtain ⟨h1,h2⟩:=hS.pick hn hp (lab2:=lab.drop ns) hl0 (fun b o k i hl hi=>by simp only [Lab.drop,hl,hi]) (fun b o y hy hq=>by rw [hl0 b o hq] at hy; cases hy)
 refine ⟨h1,h2,⟨Nat.le_refl _,rfl,rfl,rfl,fun b o _ h=>hl0 b o h,fun b o=>?_,fun _ _ _ _=>⟨rfl,rfl⟩,fun _ _ _=>rfl⟩⟩
 simp only [Lab.drop]
 split
 ·rename_i k hk
  rw [hk]
  split <;> simp
 ·exact .rfl
theorem Ext.a8L (lab:Lab) (w:World) (ns:List Nat):∀ b o,lab.sub ns b o = none ↔ lab b o = none:=by
 intro b o
 simp only [Lab.sub]
 split
 ·rename_i k hk
  rw [hk]
  split <;> simp
 ·exact .rfl
theorem renum_ok {fr':Fr} {H':Hp} {arr:Array Value} (hS:Sim ρ lab H w) (hF:Y6 ρ lab w fr arr) (h:renum nr fr H = some (fr',H')) :
  ∃ ρ' lab',Sim ρ' lab' H' w /\ Ext lab w lab' w /\ Q7 nr ρ ρ' /\ Y6 ρ' lab' w fr' arr:=by
 unfold renum at h
 simp only [a9q,fF_eq,a5z] at h
 generalize hns:reach H 99 (List.range nr ++ fr.flatMap fun p=>O5 dep p.2) [] = ns at h
 have hn:ns.Nodup:=by rw [<- hns]; exact a0G _ _ _ _ List.nodup_nil
 split at h
 ·rename_i fr2 H2 hm hp hr
  simp only [Option.some.injEq,Prod.mk.injEq] at h
  obtain ⟨rfl,rfl⟩:=h
  obtain ⟨hR,hS2,hE⟩:=hS.drop hn hp
  refine ⟨_,_,hS2,hE,a4z hr,fun t=>?_⟩
  rcases a5e hm t with hu | hu
  ·rw [hu]; exact .undef _
  ·exact Rel.ren hR dep hu (hF t)
 ·cases h
theorem a6t {f lp:Nat} {fr':Fr} {H':Hp} {arr:Array Value} (hS:Sim ρ lab H w) (hF:Y6 ρ lab w fr arr) (h:normal env f nr lp fr H = some (fr',H')) :
    ∃ ρ' lab',Sim ρ' lab' H' w /\ Ext lab w lab' w /\ Q7 nr ρ ρ' /\ Y6 ρ' lab' w fr' arr:=by
  unfold normal at h
  simp only [a9q,fF_eq,a5z] at h
  generalize hfr1:a8G (env.slk f lp) ((env.keep f lp).map fun s=>(s,look s fr)) = fr1 at h
  have hS:=hS.a4j fr1 (env.slk f lp)
  generalize a4j fr1 (env.slk f lp) H = H at h hS
  generalize hns:reach H 99 (List.range nr ++ fr1.flatMap fun p=>O5 dep p.2) [] = ns at h
  have hn:ns.Nodup:=by rw [<- hns]; exact a0G _ _ _ _ List.nodup_nil
  split at h
  · rename_i fr2 H2 hm hp hr
    obtain ⟨hR,hS2,hE⟩:=hS.drop hn hp
    obtain ⟨c1,c2,_⟩:=a2L hp
    obtain ⟨g1,g2⟩:=a3q (env.byref f) fr2 ns.length
    rw [<- c2] at h
    rw [<- c2] at *
    have hmf:=a3v (Y5 (env.byref f) fr2 H2.length).1 (H2.length + (Y5 (env.byref f) fr2 H2.length).2.length)
    have hmr:=Y1 H2 (a1k (Y5 (env.byref f) fr2 H2.length).1 (H2.length + (Y5 (env.byref f) fr2 H2.length).2.length)).2
    obtain ⟨ρ',k1,k2,k3,k4,k5,k6⟩:=hS2.a3C c1 g1 g2 hmf
    have hF2:Y6 ρ' (lab.drop ns) w (a1k (Y5 (env.byref f) fr2 H2.length).1 (H2.length + (Y5 (env.byref f) fr2 H2.length).2.length)).1 arr:=fun t=>by
     have h1:Rel (ρ.sub ns) (lab.drop ns) w (look t fr2) (arr.getD t undef):=by
       rcases a5e hm t with hu | hu
       · rw [hu]; exact .undef _
       · refine Rel.ren hR dep hu ?_
         rw [<- hfr1]
         refine a6Y (env.slk f lp) t _ ?_
         rcases a9B (env.keep f lp) fr t with hv | hv
         · rw [hv]; exact .undef _
         · rw [hv]; exact hF t
     have h2:=a6y (env.byref f) k1 t _ fr2 H2.length k2 h1
     exact a8N (Rho.le.refl _) t _ _ _ (fun j g3 g4=>k3 j g3 (by omega)) h2
    obtain ⟨ρ2,m1,m2,m3,_⟩:=fullN_ok (b:=env.full) k4 k5 hF2
    split at h
    · obtain ⟨ρ3,lab3,q1,q2,q3,q4⟩:=renum_ok m2 m3 h
      exact ⟨ρ3,lab3,q1,hE.trans q2,((a4z hr).trans (Q7.of_le (k1.trans m1) nr) (Nat.le_refl _)).trans q3 (Nat.le_refl _),q4⟩
    · simp only [Option.some.injEq,Prod.mk.injEq] at h
      rw [h.2] at m2
      rw [h.1] at m3
      exact ⟨ρ2,_,m2,hE,(a4z hr).trans (Q7.of_le (k1.trans m1) nr) (Nat.le_refl _),m3⟩
  · cases h
theorem a9t {v v':V} {x:Value} {H':Hp} (hS:Sim ρ lab H w) (hv:Rel ρ lab w v x) (h:finish nr v H = some (v',H')) :
  ∃ ρ' lab',Sim ρ' lab' H' w /\ Ext lab w lab' w /\ Q7 nr ρ ρ' /\ Rel ρ' lab' w v' x /\ Canon 0 H' /\ nr <= H'.length:=by
 unfold finish at h
 simp only [a9q,b0W,a5z] at h
 generalize hns:reach H 99 (List.range nr ++ O5 dep v) [] = ns at h
 have hn:ns.Nodup:=by rw [<- hns]; exact a0G _ _ _ _ List.nodup_nil
 split at h
 ·rename_i v2 H2 hm hp hr
  simp only [Option.some.injEq,Prod.mk.injEq] at h
  obtain ⟨rfl,rfl⟩:=h
  obtain ⟨hR,hS2,hE⟩:=hS.drop hn hp
  obtain ⟨c1,c2,_⟩:=a2L hp
  exact ⟨_,_,hS2,hE,a4z hr,Rel.ren hR dep hm hv,c1,by rw [c2]; exact a8y hr⟩
 ·cases h
theorem a9I {m:Nat -> Option Nat}:∀ {L:Hp} {i0:Nat} {H H4:Hp},Canon i0 L -> (∀ i i' j o o',hget i L = some o -> hget i' L = some o' -> m i = some j -> m i' = some j -> i = i') -> R4 m L H = some H4 ->
  (∀ i o,hget i L = some o -> ∃ j o',m i = some j /\ a5n m o = some o' /\ hget j H4 = some o') /\ ∀ j,(∀ i o,hget i L = some o -> m i ≠ some j) -> hget j H4 = hget j H
 | [],i0,H,H4,_,_,h=>by simp only [R4] at h; cases h; exact ⟨fun i o h=>(by cases h),fun _ _=>rfl⟩
 | (s,o) :: r,i0,H,H4,hc,hinj,h=>by
  obtain ⟨rfl,hc2⟩:=hc
  simp only [R4] at h
  split at h
  ·rename_i j0 o0 hj0 ho0
   have hsr:∀ i o,hget i r = some o -> hget i ((s,o0) :: r) = some o /\ s ≠ i:=fun i o hi=>by
    have:=Y3 hc2 i o hi
    have hb:Nat.beq s i = false:=by
     cases hb:Nat.beq s i with
     | true=>have:=Nat.eq_of_beq_eq_true hb; omega
     | false=>rfl
    exact ⟨by simp only [hget,hb]; exact hi,by omega⟩
   have hsr':∀ i o1,hget i r = some o1 -> hget i ((s,o) :: r) = some o1 /\ s ≠ i:=fun i o1 hi=>by
    have h1:=hsr i o1 hi
    simp only [hget] at h1 ⊢
    split
    ·rename_i hb
     exact absurd (Nat.eq_of_beq_eq_true hb) h1.2
    ·exact ⟨hi,h1.2⟩
   have hhead:hget s ((s,o) :: r) = some o:=by simp [hget]
   obtain ⟨k1,k2⟩:=a9I hc2 (fun i i' j o1 o2 h1 h2=>hinj i i' j o1 o2 (hsr' i o1 h1).1 (hsr' i' o2 h2).1) h
   refine ⟨fun i o1 hi=>?_,fun j hj=>?_⟩
   ·simp only [hget] at hi
    split at hi
    ·rename_i hb
     cases hi
     have:=Nat.eq_of_beq_eq_true hb
     subst this
     refine ⟨j0,o0,hj0,ho0,?_⟩
     rw [k2 j0 (fun i' o' hi' hm=>(hsr' i' o' hi').2 (hinj s i' j0 o o' hhead (hsr' i' o' hi').1 hj0 hm)),l6,if_pos rfl]
    ·exact k1 i o1 hi
   ·rw [k2 j (fun i' o' hi'=>hj i' o' (hsr' i' o' hi').1),l6,if_neg]
    rintro rfl
    exact hj s o hhead hj0
  ·cases h
theorem a6n:∀ {n k:Nat},a3c H k n = true -> ∀ i,i < n -> hget (k + i) H = none
 | 0,_,_,i,hi=>by omega
 | n + 1,k,h,i,hi=>by
  simp only [a3c,Bool.and_eq_true] at h
  rcases Nat.lt_or_ge i n with h1 | h1
  ·exact a6n h.2 i h1
  ·have:i = n:=by omega
   subst this
   cases hq:hget (k + i) H with
   | none=>rfl
   | some o=>rw [hq] at h; simp at h
def Rho.back (ρ ρ3:Rho) (H:Hp) (ns:List Nat) (k:Nat):Rho :=
  ⟨fun j=>match idx j ns with | some i=>ρ3.at_ i | none=>match hget j H with | some _=>ρ.at_ j | none=>if k <= j then ρ3.at_ (ns.length + (j - k)) else none,
   fun j m=>match idx j ns with | some i=>ρ3.hd i m | none=>match hget j H with | some _=>ρ.hd j m | none=>if k <= j then ρ3.hd (ns.length + (j - k)) m else none⟩
def Lab.back (lab lab3:Lab) (ns:List Nat) (k:Nat):Lab:=fun b o=>match lab3 b o with
 | some (some i)=>(match C9 ns k i with | some j=>some (some j) | none=>none)
 | some none=>lab b o
 | none=>none
theorem b03 {ns:List Nat} {j:Nat} (h:∀ i:Nat,ns[i]? ≠ some j):idx j ns = none:=by
 cases hq:idx j ns with
 | none=>rfl
 | some i=>exact absurd (a14 hq) (h i)
theorem a8h {ρn ρ3:Rho} {lab3:Lab} {w':World} {H3 H4:Hp} {ns:List Nat} {k nc:Nat} {v v4:V} {x:Value} (hS:Sim ρ lab H w) (hn:ns.Nodup)
  (hpick:∀ i j:Nat,ns[i]? = some j -> hget j H ≠ none) (hnc:ns.length <= nc) (hle:(ρ.sub ns).le ρn) (S3:Sim ρ3 lab3 H3 w') (E3:Ext (lab.sub ns) w lab3 w') (R3:Q7 nc ρn ρ3) (c3:Canon 0 H3)
  (hlen:nc <= H3.length) (hv:Rel ρ3 lab3 w' v x) (hv4:P6 (C9 ns k) dep v = some v4) (hm:R4 (C9 ns k) H3 H = some H4) (hf:a3c H k (H3.length - ns.length) = true) :
  ∃ ρ4 lab4,Sim ρ4 lab4 H4 w' /\ Ext lab w lab4 w' /\ ρ.le ρ4 /\ Rel ρ4 lab4 w' v4 x:=by
 have hfr:=a6n hf
 have hlt:∀ i o,hget i H3 = some o -> i < H3.length:=fun i o h=>by have:=Y3 c3 i o h; omega
 have hbn:∀ i j,i < H3.length -> C9 ns k i = some j -> (ns[i]? = some j /\ i < ns.length /\ idx j ns = some i) ∨ (ns.length <= i /\ j = k + (i - ns.length) /\ hget j H = none /\ idx j ns = none):=by
  intro i j hi hb
  unfold C9 at hb
  split at hb
  ·rename_i j' hj'
   cases hb
   refine .inl ⟨hj',?_,a7r hn hj'⟩
   rcases Nat.lt_or_ge i ns.length with h | h
   ·exact h
   ·rw [List.getElem?_eq_none h] at hj'; cases hj'
  ·rename_i hj'
   cases hb
   have hge:ns.length <= i:=by
    rcases Nat.lt_or_ge i ns.length with h | h
    ·rw [List.getElem?_eq_getElem h] at hj'; cases hj'
    ·exact h
   have hnone:=hfr (i - ns.length) (by omega)
   exact .inr ⟨hge,rfl,hnone,b03 fun i' hi'=>hpick i' _ hi' hnone⟩
 have hinj:∀ i i' j o o',hget i H3 = some o -> hget i' H3 = some o' -> C9 ns k i = some j -> C9 ns k i' = some j -> i = i':=by
  intro i i' j o o' h1 h2 b1 b2
  rcases hbn i j (hlt _ _ h1) b1 with ⟨p1,p2,p3⟩ | ⟨p1,p2,p3,p4⟩ <;> rcases hbn i' j (hlt _ _ h2) b2 with ⟨q1,q2,q3⟩ | ⟨q1,q2,q3,q4⟩
  ·rw [p3] at q3; cases q3; rfl
  ·rw [p3] at q4; cases q4
  ·rw [p4] at q3; cases q3
  ·omega
 obtain ⟨m1,m2⟩:=a9I c3 hinj hm
 have hat3:∀ i x,ρ3.at_ i = some x -> i < H3.length:=fun i x h=>by
  have:=S3.adom i x h
  cases hq:hget i H3 with
  | none=>exact absurd hq this
  | some o=>exact hlt i o hq
 have hhd3:∀ i m x,ρ3.hd i m = some x -> i < H3.length:=fun i m x h=>by
  obtain ⟨e,m',h1,_⟩:=S3.hdom i m x h
  exact hlt i _ h1
 have hR:Ren (C9 ns k) ρ3 (ρ.back ρ3 H ns k) lab3 (lab.back lab3 ns k):=by
  refine ⟨fun i j x hb hx=>?_,fun i j m x hb hx=>?_,fun b o hl=>by simp only [Lab.back,hl]⟩
  ·rcases hbn i j (hat3 i x hx) hb with ⟨p1,p2,p3⟩ | ⟨p1,p2,p3,p4⟩
   ·simp only [Rho.back,p3]; exact hx
   ·simp only [Rho.back,p4,p3]
    rw [if_pos (by omega),p2,show ns.length + (k + (i - ns.length) - k) = i from by omega]; exact hx
  ·rcases hbn i j (hhd3 i m x hx) hb with ⟨p1,p2,p3⟩ | ⟨p1,p2,p3,p4⟩
   ·simp only [Rho.back,p3]; exact hx
   ·simp only [Rho.back,p4,p3]
    rw [if_pos (by omega),p2,show ns.length + (k + (i - ns.length) - k) = i from by omega]; exact hx
 have hle4:ρ.le (ρ.back ρ3 H ns k):=by
  refine ⟨fun j x hx=>?_,fun j m x hx=>?_⟩
  ·simp only [Rho.back]
   split
   ·rename_i i hi
    have hg:=a14 hi
    have hil:i < ns.length:=by
     rcases Nat.lt_or_ge i ns.length with h | h
     ·exact h
     ·rw [List.getElem?_eq_none h] at hg; cases hg
    refine R3.at_ i x (by omega) (hle.at_ i x ?_)
    simp only [Rho.sub,hg]; exact hx
   ·split
    ·exact hx
    ·rename_i hq; exact absurd hq (hS.adom j x hx)
  ·simp only [Rho.back]
   split
   ·rename_i i hi
    have hg:=a14 hi
    have hil:i < ns.length:=by
     rcases Nat.lt_or_ge i ns.length with h | h
     ·exact h
     ·rw [List.getElem?_eq_none h] at hg; cases hg
    refine R3.hd i m x (by omega) (hle.hd i m x ?_)
    simp only [Rho.sub,hg]; exact hx
   ·split
    ·exact hx
    ·rename_i hq
     obtain ⟨e,m',h1,_⟩:=hS.hdom j m x hx
     rw [hq] at h1; cases h1
 have hsub0:=Ext.a8L lab w ns
 have hsubc:∀ b o,lab b o = some none -> lab.sub ns b o = some none:=fun b o h=>by simp only [Lab.sub,h]
 have hown:∀ b o i,lab.sub ns b o = some (some i) -> ¬ ∀ k,lab b o ≠ some (some k):=fun b o i hi hl=>by
  cases hq:lab b o with
  | none=>simp only [Lab.sub,hq] at hi; cases hi
  | some y =>
   cases y with
   | none=>simp only [Lab.sub,hq] at hi; cases hi
   | some j=>exact hl j hq
 have hE4:Ext lab w (lab.back lab3 ns k) w':=by
  refine ⟨E3.size,E3.os,E3.tape,E3.output,fun b o hb hl=>?_,fun b o=>⟨fun h=>?_,fun h=>?_⟩,fun b o hb hl=>E3.cl b o hb (fun i hi=>?_),fun b hb hl=>E3.blk b hb (fun o i hi=>?_)⟩
  ·have:=E3.lb b o hb ((hsub0 b o).2 hl)
   simp only [Lab.back,this]
  ·simp only [Lab.back] at h
   split at h
   ·split at h <;> cases h
   ·exact h
   ·cases h
  ·have:=(E3.ctx b o).2 (hsubc b o h)
   simp only [Lab.back,this,h]
  ·exact hown b o i hi hl
  ·exact hown b o i hi (hl o)
 have hold:∀ j,(∀ i o,hget i H3 = some o -> C9 ns k i ≠ some j) -> hget j H ≠ none -> idx j ns = none:=by
  intro j hno hj
  refine b03 fun i hi=>?_
  have hil:i < ns.length:=by
   rcases Nat.lt_or_ge i ns.length with h | h
   ·exact h
   ·rw [List.getElem?_eq_none h] at hi; cases hi
  obtain ⟨o,ho⟩:=a4X c3 (Nat.zero_le i) (by omega)
  refine hno i o ho ?_
  unfold C9; rw [hi]
 refine ⟨ρ.back ρ3 H ns k,lab.back lab3 ns k,Sim.mk' (fun j o hj=>?_) (fun j m y h=>?_) (fun j y h=>?_) (fun b o j hl=>?_),hE4,hle4,Rel.ren hR dep hv4 hv⟩
 ·by_cases hit:∃ i o3,hget i H3 = some o3 /\ C9 ns k i = some j
  ·obtain ⟨i,o3,h1,h2⟩:=hit
   obtain ⟨j',o',g1,g2,g3⟩:=m1 i o3 h1
   rw [h2] at g1; cases g1
   rw [hj] at g3; cases g3
   exact a0P.ren hR h2 (fun b p hl=>by simp only [Lab.back,hl,h2]) (S3.obj h1) g2
  ·have hno:∀ i o,hget i H3 = some o -> C9 ns k i ≠ some j:=fun i o h1 h2=>hit ⟨i,o,h1,h2⟩
   have hj':=m2 j hno
   rw [hj] at hj'
   have hid:=hold j hno (by rw [<- hj']; simp)
   refine (hS.obj hj'.symm).carry hE4 hle4 (fun b p hq=>?_)
   obtain ⟨y,hy⟩:=hq.cell
   have hb:=L9 hy
   have hsl:lab.sub ns b p = some none:=by simp only [Lab.sub,hq.lab,hid]
   have h3:=(E3.ctx b p).2 hsl
   obtain ⟨f1,f2⟩:=E3.cl b p hb (fun i hi=>by rw [hsl] at hi; cases hi)
   exact ⟨⟨by simp only [Lab.back,h3]; exact hq.lab,f2.trans hq.free,y,f1.trans hy⟩,f1⟩
 ·simp only [Rho.back] at h
  have viaI:∀ i,C9 ns k i = some j -> ρ3.hd i m = some y -> ∃ e m',hget j H4 = some (.tip e m') /\ m <= m':=by
   intro i hb hx
   obtain ⟨e,m',g1,g2⟩:=S3.hdom i m y hx
   obtain ⟨j',o',k1,k2,k3⟩:=m1 i _ g1
   rw [hb] at k1; cases k1
   simp only [a5n] at k2; cases k2
   exact ⟨e,m',k3,g2⟩
  split at h
  ·rename_i i hi
   exact viaI i (by unfold C9; rw [a14 hi]) h
  ·rename_i hi
   split at h
   ·rename_i o ho
    obtain ⟨e,m',g1,g2⟩:=hS.hdom j m y h
    have hno:∀ i o,hget i H3 = some o -> C9 ns k i ≠ some j:=fun i o h1 h2=>by
     rcases hbn i j (hlt _ _ h1) h2 with ⟨p1,p2,p3⟩ | ⟨p1,p2,p3,p4⟩
     ·rw [hi] at p3; cases p3
     ·rw [ho] at p3; cases p3
    rw [m2 j hno]
    exact ⟨e,m',g1,g2⟩
   ·split at h
    ·rename_i hk
     refine viaI (ns.length + (j - k)) ?_ h
     unfold C9
     rw [List.getElem?_eq_none (by omega)]
     simp only [Option.some.injEq]; omega
    ·cases h
 ·simp only [Rho.back] at h
  have viaI:∀ i,C9 ns k i = some j -> ρ3.at_ i = some y -> hget j H4 ≠ none:=by
   intro i hb hx
   have:=S3.adom i y hx
   cases hq:hget i H3 with
   | none=>exact absurd hq this
   | some o =>
    obtain ⟨j',o',k1,k2,k3⟩:=m1 i _ hq
    rw [hb] at k1; cases k1
    rw [k3]; simp
  split at h
  ·rename_i i hi
   exact viaI i (by unfold C9; rw [a14 hi]) h
  ·rename_i hi
   split at h
   ·rename_i o ho
    have hno:∀ i o,hget i H3 = some o -> C9 ns k i ≠ some j:=fun i o h1 h2=>by
     rcases hbn i j (hlt _ _ h1) h2 with ⟨p1,p2,p3⟩ | ⟨p1,p2,p3,p4⟩
     ·rw [hi] at p3; cases p3
     ·rw [ho] at p3; cases p3
    rw [m2 j hno,ho]; simp
   ·split at h
    ·rename_i hk
     refine viaI (ns.length + (j - k)) ?_ h
     unfold C9
     rw [List.getElem?_eq_none (by omega)]
     simp only [Option.some.injEq]; omega
    ·cases h
 ·simp only [Lab.back] at hl
  cases hq:lab3 b o with
  | none=>rw [hq] at hl; cases hl
  | some y=>exact S3.ldom b o y hq
end
end Go.Vm
namespace Go.Vm
theorem eqOwn_eq:∀ {a b:Own},eqOwn a b = true -> a = b
 | .sealed,b,h=>by cases b <;> first | rfl | cases h
 | .full,b,h=>by cases b <;> first | rfl | cases h
 | .nil,b,h=>by cases b <;> first | rfl | cases h
 | .tag g,b,h=>by cases b <;> first | (rw [Nat.eq_of_beq_eq_true h]) | cases h
theorem b1S (a:Own):eqOwn a a = true:=by cases a <;> simp [eqOwn]
mutual
theorem eqV_eq:∀ (a b:V),eqV a b = true -> a = b
 | .undef,b,h=>by cases b <;> first | rfl | (simp [eqV] at h)
 | .bool x,b,h=>by cases b <;> simp [eqV] at h ⊢ <;> exact h
 | .int k n,b,h=>by cases b <;> simp [eqV] at h ⊢ <;> exact h
 | .str x,b,h=>by cases b <;> simp [eqV] at h ⊢ <;> exact h
 | .nilptr,b,h=>by cases b <;> first | rfl | (simp [eqV] at h)
 | .ptr r o,b,h=>by cases b <;> simp [eqV] at h ⊢ <;> exact h
 | .cptr cs,b,h=>by
  cases b <;> simp [eqV] at h ⊢
  exact a2Y cs _ h
 | .slice o n cs,b,h=>by
  cases b <;> simp [eqV] at h ⊢
  exact ⟨eqOwn_eq h.1.1,h.1.2,a2Y cs _ h.2⟩
 | .rslice r o n w,b,h=>by
  cases b <;> simp [eqV] at h ⊢
  exact ⟨h.1.1.1,h.1.1.2,h.1.2,h.2⟩
 | .func f a c,b,h=>by
  cases b <;> simp [eqV] at h ⊢
  exact ⟨h.1.1,a2Y a _ h.1.2,a2Y c _ h.2⟩
 | .nilFunc,b,h=>by cases b <;> first | rfl | (simp [eqV] at h)
 | .iface t v,b,h=>by
  cases b <;> simp [eqV] at h ⊢
  exact ⟨h.1,eqV_eq v _ h.2⟩
 | .nilIface,b,h=>by cases b <;> first | rfl | (simp [eqV] at h)
 | .opq,b,h=>by cases b <;> first | rfl | (simp [eqV] at h)
 | .agg cs,b,h=>by
  cases b <;> simp [eqV] at h ⊢
  exact a2Y cs _ h
 | .tuple cs,b,h=>by
  cases b <;> simp [eqV] at h ⊢
  exact a2Y cs _ h
theorem a2Y:∀ (a b:List V),eqL a b = true -> a = b
 | [],b,h=>by cases b <;> first | rfl | (simp [eqL] at h)
 | x :: r,b,h=>by
  cases b <;> simp [eqL] at h ⊢
  exact ⟨eqV_eq x _ h.1,a2Y r _ h.2⟩
end
mutual
theorem b0U:∀ a:V,eqV a a = true
 | .undef | .bool _ | .int _ _ | .str _ | .nilptr | .ptr _ _ | .rslice _ _ _ _ | .nilFunc | .nilIface | .opq=>by simp [eqV]
 | .cptr cs | .agg cs | .tuple cs=>by simp [eqV,a2v cs]
 | .slice o n cs=>by simp [eqV,b1S,a2v cs]
 | .func f a c=>by simp [eqV,a2v a,a2v c]
 | .iface t v=>by simp [eqV,b0U v]
theorem a2v:∀ a:List V,eqL a a = true
 | []=>by simp [eqL]
 | x :: r=>by simp [eqL,b0U x,a2v r]
end
theorem b0T (a:Option Obj):eqO a a = true:=by
 cases a with
 | none=>rfl
 | some x=>cases x <;> simp [eqO,a2v]
theorem eqO_eq {a b:Option Obj} (h:eqO a b = true):a = b:=by
 cases a with
 | none=>cases b with
  | none=>rfl
  | some y=>cases y <;> simp [eqO] at h
 | some x=>cases b with
  | none=>cases x <;> simp [eqO] at h
  | some y =>
   cases x <;> cases y <;> simp [eqO] at h ⊢
   ·exact a2Y _ _ h
   ·exact ⟨h.1,a2Y _ _ h.2⟩
   ·exact h
theorem a7T {k:Nat} {o:Obj}:∀ {H:Hp},hget k H = some o -> ∃ p ∈ H,p.1 = k
 | (j,x) :: r,h=>by
  simp only [hget] at h
  split at h
  ·rename_i hb; exact ⟨(j,x),by simp,Nat.eq_of_beq_eq_true hb⟩
  ·obtain ⟨p,h1,h2⟩:=a7T h
   exact ⟨p,by simp [h1],h2⟩
theorem b3P {A B:Hp} (h:a8C A B = true) (k:Nat):hget k A = hget k B:=by
 simp only [a8C,Bool.and_eq_true,List.all_eq_true] at h
 cases ha:hget k A with
 | some o =>
  obtain ⟨p,h1,rfl⟩:=a7T ha
  rw [<- ha]
  exact eqO_eq (h.1 p h1)
 | none=>cases hb:hget k B with
  | none=>rfl
  | some o =>
   obtain ⟨p,h1,rfl⟩:=a7T hb
   have:=eqO_eq (h.2 p h1)
   rw [ha,hb] at this; cases this
theorem b1o {A B:Hp} (h:∀ k,hget k A = hget k B):a8C A B = true:=by
 simp only [a8C,Bool.and_eq_true,List.all_eq_true]
 exact ⟨fun p _=>by rw [h]; exact b0T _,fun p _=>by rw [h]; exact b0T _⟩
theorem b2w (A:Hp):a8C A A = true:=b1o fun _=>rfl
end Go.Vm
namespace Go.Vm
section
variable {P:Program} {T:List (Nat × Ty)} {ρ ρ':Rho} {lab:Lab} {w:World} {H:Hp} {fr:Fr} {a:Act} {n nr:Nat} {env:Env} {orc:Orc}
theorem Rel.a8F {v:V} {x:Value} (h:Rel ρ lab w v x):Rel ρ lab w (a8F v) x:=by
 cases v with
 | tuple vs =>
  cases h with
  | tuple _ xs h1 h2 =>
   have:=b2q (ρ:=ρ) (lab:=lab) (w:=w) (f:=a2O) (fun _ _ h=>h.a5S) ⟨h1,h2⟩
   exact .tuple _ xs this.1 this.2
 | _=>exact h.a5S
theorem o8.a9Z {vs:List V} {xs:List Value} (h:o8 ρ lab w vs xs):o8 ρ lab w (vs.map a2O) xs:=b2q (fun _ _ h=>h.a5S) h
theorem o8.b3c {m:Nat -> Bool}:∀ {vs:List V} {i:Nat} {xs:List Value},o8 ρ lab w vs xs -> o8 ρ lab w (maskL m i vs) xs
 | [],_,_,h=>h
 | v :: r,i,xs,h=>by
  obtain ⟨x,xr,rfl,h1,h2⟩:=l9.1 h
  refine l9.2 ⟨x,xr,rfl,?_,o8.b3c h2⟩
  cases m i with
  | true=>exact h1
  | false=>exact h1.a1l
theorem o8.b3b {m:Nat -> Bool}:∀ {vs:List V} {i:Nat} {xs:List Value},o8 ρ lab w vs xs -> o8 ρ lab w (maskG m i vs) xs
 | [],_,_,h=>h
 | v :: r,i,xs,h=>by
  obtain ⟨x,xr,rfl,h1,h2⟩:=l9.1 h
  refine l9.2 ⟨x,xr,rfl,?_,o8.b3b h2⟩
  cases m i with
  | true=>exact h1
  | false=>exact h1.a5S
theorem Rel.a8d {m:Nat -> Bool} {i:Nat} {v:V} {x:Value} (h:Rel ρ lab w v x):Rel ρ lab w (a8d m i v) x:=by
 cases v with
 | agg cs=>cases h with | agg _ xs h1 h2=>have:=o8.b3c (ρ:=ρ) (lab:=lab) (w:=w) (m:=m) (i:=i) ⟨h1,h2⟩; exact .agg _ xs this.1 this.2
 | _ =>
  unfold Vm.a8d
  cases m i with
  | true=>exact h
  | false=>exact h.a1l
theorem o8.b3d {m:Nat -> Bool}:∀ {vs:List V} {i:Nat} {xs:List Value},o8 ρ lab w vs xs -> o8 ρ lab w (maskT m i vs) xs
 | [],_,_,h=>h
 | v :: r,i,xs,h=>by
  obtain ⟨x,xr,rfl,h1,h2⟩:=l9.1 h
  exact l9.2 ⟨x,xr,rfl,h1.a8d,o8.b3d h2⟩
theorem Rel.a8e {m:Nat -> Bool} {v:V} {x:Value} (h:Rel ρ lab w v x):Rel ρ lab w (a8e m v) x:=by
 cases v with
 | tuple vs=>cases h with | tuple _ xs h1 h2=>have:=o8.b3d (ρ:=ρ) (lab:=lab) (w:=w) (m:=m) (i:=0) ⟨h1,h2⟩; exact .tuple _ xs this.1 this.2
 | _=>exact h.a8d
theorem a6C (v:V) (k:Nat):k <= (a6B v k).2:=by
 unfold a6B
 split
 ·exact a0f _ _
 ·exact Nat.le_succ _
 ·exact Nat.le_refl _
theorem a5p:∀ (vs:List V) (k:Nat),k <= (a7c vs k).2
 | [],k=>Nat.le_refl _
 | v :: r,k=>Nat.le_trans (a6C v k) (a5p r _)
theorem b30 (v:V) (k:Nat):k <= (tagD v k).2:=by
 cases v with
 | tuple vs=>exact a5p vs k
 | _=>exact a6C _ k
theorem Rel.a6B (hρ:ρ.le ρ') {v:V} {k:Nat} {x:Value} (hk:∀ j,k <= j -> j < (a6B v k).2 -> ρ'.hd j 0 = some (none,0)) (h:Rel ρ lab w v x):Rel ρ' lab w (a6B v k).1 x:=by
 unfold Vm.a6B at hk ⊢
 split
 ·rename_i cs
  cases h with
  | agg _ xs h1 h2=>have:=a2S (ρ:=ρ) (ρ':=ρ') (lab:=lab) (w:=w) hρ cs k xs hk ⟨h1,h2⟩; exact .agg _ xs this.1 this.2
 ·exact h.tag (hk k (Nat.le_refl _) (Nat.lt_succ_self _))
 ·exact h.up hρ
theorem b1s (hρ:ρ.le ρ'):∀ (vs:List V) (k:Nat) (xs:List Value),(∀ j,k <= j -> j < (a7c vs k).2 -> ρ'.hd j 0 = some (none,0)) -> o8 ρ lab w vs xs -> o8 ρ' lab w (a7c vs k).1 xs
 | [],k,xs,_,h=>h.up hρ
 | v :: r,k,xs,hk,h=>by
  obtain ⟨x,xr,rfl,h1,h2⟩:=l9.1 h
  simp only [a7c] at hk ⊢
  have m1:=a6C v k
  have m2:=a5p r (Vm.a6B v k).2
  exact l9.2 ⟨x,xr,rfl,h1.a6B hρ (fun j h3 h4=>hk j h3 (by omega)),b1s hρ r _ xr (fun j h3 h4=>hk j (by omega) h4) h2⟩
theorem Rel.tagD (hρ:ρ.le ρ') {v:V} {k:Nat} {x:Value} (hk:∀ j,k <= j -> j < (tagD v k).2 -> ρ'.hd j 0 = some (none,0)) (h:Rel ρ lab w v x):Rel ρ' lab w (tagD v k).1 x:=by
 cases v with
 | tuple vs=>cases h with | tuple _ xs h1 h2=>have:=b1s (ρ:=ρ) (ρ':=ρ') (lab:=lab) (w:=w) hρ vs k xs hk ⟨h1,h2⟩; exact .tuple _ xs this.1 this.2
 | _=>exact Rel.a6B hρ hk h
theorem b31 {b:Bool} {v:V} {x:Value} (hc:Canon 0 H) (hS:Sim ρ lab H w) (hv:Rel ρ lab w v x) :
  ∃ ρ',ρ.le ρ' /\ Sim ρ' lab (V6 b v H).2 w /\ Rel ρ' lab w (V6 b v H).1 x /\ Canon 0 (V6 b v H).2 /\ H.length <= (V6 b v H).2.length:=by
 cases b with
 | false=>exact ⟨ρ,.refl _,hS,hv,hc,Nat.le_refl _⟩
 | true =>
  simp only [V6]
  have hm:=b30 v H.length
  obtain ⟨ρn,k1,_,k3,k4,k5,k6⟩:=hS.a3C hc (G:=[]) (k2:=(tagD v H.length).2) trivial (fun j o h=>by cases h) (by rw [List.length_nil]; exact hm)
  simp only [List.length_nil,Nat.add_zero,List.append_nil] at k3 k4 k5 k6
  have hmr:=Y1 H (tagD v H.length).2
  exact ⟨ρn,k1,k4,hv.tagD k1 (fun j h1 h2=>k3 j h1 (by omega)),k5,k6⟩
theorem Sim.freeze (hS:Sim ρ lab H w) {k e n cap:Nat} {wh:Bool} {cs:List V} {ao:Option Addr} (hk:hget k H = some (.grow e cs)) (hv:Rel ρ lab w (.rslice k 0 n wh) (.slice ao n cap)) :
  ∃ lab',Ext lab w lab' w /\ Sim ρ lab' (hset k .gone H) w /\ Rel ρ lab' w (.slice .sealed n (cs.take (n * e))) (.slice ao n cap):=by
 let lab':Lab:=fun b o=>match lab b o with
  | some (some j)=>if j = k then none else some (some j)
  | r=>r
 have e0:∀ b o,lab b o = none -> lab' b o = none:=fun b o h=>by simp only [lab',h]
 have e1:∀ b o,lab' b o = some none ↔ lab b o = some none:=fun b o=>by
  simp only [lab']
  split
  ·rename_i j hj
   split <;> simp [hj]
  ·exact .rfl
 have e2:∀ b o,lab b o = some (some k) -> lab' b o = none:=fun b o h=>by simp only [lab',h,if_pos]
 have e3:∀ b o j,lab b o = some (some j) -> j ≠ k -> lab' b o = some (some j):=fun b o j h hj=>by simp only [lab',h,if_neg hj]
 have e4:∀ b o j,lab' b o = some j -> ∃ j,lab b o = some j:=fun b o j h=>by
  cases hl:lab b o with
  | none=>rw [e0 _ _ hl] at h; cases h
  | some i=>exact ⟨i,rfl⟩
 have hE:Ext lab w lab' w:=⟨Nat.le_refl _,rfl,rfl,rfl,fun b o _ h=>e0 b o h,e1,fun _ _ _ _=>⟨rfl,rfl⟩,fun _ _ _=>rfl⟩
 have hO:∀ {j b o},j ≠ k -> U0 lab w j b o -> U0 lab' w j b o:=fun hj h=>⟨e3 _ _ _ h.lab hj,h.free,h.cell⟩
 have hg:∀ {j o},hget j (hset k .gone H) = some o -> o ≠ .gone -> j ≠ k /\ hget j H = some o:=fun {j o} h ho=>by
  by_cases hj:j = k
  ·subst hj; rw [l6,if_pos rfl] at h; cases h; exact absurd rfl ho
  ·rw [l6,if_neg hj] at h; exact ⟨hj,h⟩
 refine ⟨lab',hE,⟨?_,?_,?_,?_,?_,?_⟩,?_⟩
 ·intro j c h
  obtain ⟨hj,h⟩:=hg h (by simp)
  obtain ⟨b,o,xs,h1,h2,h3⟩:=hS.row j c h
  exact ⟨b,o,xs,h1,h2.ext hE (.refl _),fun i x hx=>⟨hO hj (h3 i x hx).1,(h3 i x hx).2⟩⟩
 ·intro j e c h
  obtain ⟨hj,h⟩:=hg h (by simp)
  obtain ⟨base,cc,xs,h1,h2,h3,h4,h5,h6,h7⟩:=hS.grow j e c h
  exact ⟨base,cc,xs,h1,h2.ext hE (.refl _),h3,h4,h5,h6,fun b o hb=>⟨fun i hi=>hO hj ((h7 b o hb).1 i hi),(h7 b o hb).2⟩⟩
 ·intro j e m h
  obtain ⟨hj,h⟩:=hg h (by simp)
  obtain ⟨a,c,h1,h2,h3,h4,h5⟩:=hS.tip j e m h
  exact ⟨a,c,h1,h2,h3,h4,fun q hq=>⟨(h5 q hq).1,fun i hi hi2=>hO hj ((h5 q hq).2 i hi hi2)⟩⟩
 ·intro j m x h
  obtain ⟨e,m2,h1,h2⟩:=hS.hdom j m x h
  refine ⟨e,m2,?_,h2⟩
  by_cases hj:j = k
  ·subst hj; rw [hk] at h1; cases h1
  ·rw [l6,if_neg hj]; exact h1
 ·intro j x h
  by_cases hj:j = k
  ·subst hj; rw [l6,if_pos rfl]; simp
  ·rw [l6,if_neg hj]; exact hS.adom j x h
 ·intro b o j h
  obtain ⟨i,hi⟩:=e4 b o j h
  exact hS.ldom b o i hi
 ·obtain ⟨base,c,xs,h1,h2,h3,h4,h5,h6,h7⟩:=hS.grow k e cs hk
  cases hv with
  | rslice _ _ _ _ base' g _ _ g1 g2 g3 g4 g5 =>
   rw [h1] at g1
   cases g1
   have hx:∀ (i:Nat) (x:Value),(xs.take (n * e))[i]? = some x -> xs[i]? = some x:=fun i x h=>by
    rw [List.getElem?_take] at h
    split at h
    ·exact h
    ·cases h
   have hc:∀ (i:Nat) (v:V),(cs.take (n * e))[i]? = some v -> cs[i]? = some v:=fun i x h=>by
    rw [List.getElem?_take] at h
    split at h
    ·exact h
    ·cases h
   cases hb:base with
   | none =>
    have hn0:n = 0:=by
     rcases Nat.eq_zero_or_pos n with h | h
     ·exact h
     ·have:=g3 (.inl h); rw [hb] at this; exact absurd this (g5 h)
    subst hn0
    refine .slice .sealed 0 _ [] 0 0 ao cap (by simp) g2 (fun h=>absurd h (by omega)) (fun _=>by simp) (fun i x h=>by simp at h) (fun i v x _ h=>by simp at h) trivial (fun x h=>by simp at h) (fun v h=>by simp at h)
   | some p =>
    obtain ⟨b,o⟩:=p
    obtain ⟨h8,h9⟩:=h7 b o hb
    refine .slice .sealed n _ (xs.take (n * e)) b o ao cap (by rw [List.length_take,List.length_take,h2.1]) g2 (fun hn=>?_) (fun h=>by subst h; simp) (fun i x h=>?_) (fun i v x hv h=>?_) trivial (fun x h=>h5 x (List.mem_of_mem_take h)) (fun v h=>h6 v (List.mem_of_mem_take h))
    ·have:=g3 (.inl hn)
     rw [hb] at this
     simpa using this
    ·have hxs:=hx i x h
     have hlt:i < xs.length:=by
      rcases Nat.lt_or_ge i xs.length with h | h
      ·exact h
      ·rw [List.getElem?_eq_none h] at hxs; cases hxs
     exact ⟨e2 _ _ (h8 i (by rw [h2.1] at hlt; omega)).lab,h9 i x hxs⟩
    ·exact (h2.2 i v x (hc i v hv) (hx i x h)).ext hE (.refl _)
theorem b2P (hS:Sim ρ lab H w) {v:V} {x:Value} (hv:Rel ρ lab w v x):∃ lab',Ext lab w lab' w /\ Sim ρ lab' (frz1 v H).2 w /\ Rel ρ lab' w (frz1 v H).1 x:=by
 unfold frz1
 split
 ·split
  ·rename_i hk
   cases hv with
   | rslice _ _ _ _ base' g ao cap g1 g2 g3 g4 g5=>exact hS.freeze hk (.rslice _ _ _ _ base' g ao cap g1 g2 g3 g4 g5)
  ·exact ⟨lab,.refl _ _,hS,hv⟩
 ·exact ⟨lab,.refl _ _,hS,hv⟩
theorem b2R:∀ (vs:List V) {lab:Lab} {H:Hp} {xs:List Value},Sim ρ lab H w -> o8 ρ lab w vs xs -> ∃ lab',Ext lab w lab' w /\ Sim ρ lab' (a7f vs H).2 w /\ o8 ρ lab' w (a7f vs H).1 xs
 | [],lab,H,xs,hS,h=>⟨lab,.refl _ _,hS,h⟩
 | v :: r,lab,H,xs,hS,h=>by
  obtain ⟨x,xr,rfl,h1,h2⟩:=l9.1 h
  obtain ⟨l1,k1,k2,k3⟩:=b2P hS h1
  obtain ⟨l2,m1,m2,m3⟩:=b2R r k2 (h2.ext k1 (.refl _))
  exact ⟨l2,k1.trans m1,m2,l9.2 ⟨x,xr,rfl,k3.ext m1 (.refl _),m3⟩⟩
theorem b2Q (hS:Sim ρ lab H w) {v:V} {x:Value} (hv:Rel ρ lab w v x):∃ lab',Ext lab w lab' w /\ Sim ρ lab' (frzA v H).2 w /\ Rel ρ lab' w (frzA v H).1 x:=by
 unfold frzA
 split
 ·cases hv with
  | agg _ xs h1 h2 =>
   obtain ⟨l,k1,k2,k3⟩:=b2R _ hS ⟨h1,h2⟩
   exact ⟨l,k1,k2,.agg _ xs k3.1 k3.2⟩
 ·exact b2P hS hv
theorem b2S:∀ (vs:List V) {lab:Lab} {H:Hp} {xs:List Value},Sim ρ lab H w -> o8 ρ lab w vs xs -> ∃ lab',Ext lab w lab' w /\ Sim ρ lab' (frzT vs H).2 w /\ o8 ρ lab' w (frzT vs H).1 xs
 | [],lab,H,xs,hS,h=>⟨lab,.refl _ _,hS,h⟩
 | v :: r,lab,H,xs,hS,h=>by
  obtain ⟨x,xr,rfl,h1,h2⟩:=l9.1 h
  obtain ⟨l1,k1,k2,k3⟩:=b2Q hS h1
  obtain ⟨l2,m1,m2,m3⟩:=b2S r k2 (h2.ext k1 (.refl _))
  exact ⟨l2,k1.trans m1,m2,l9.2 ⟨x,xr,rfl,k3.ext m1 (.refl _),m3⟩⟩
theorem frzD_ok {b:Bool} (hS:Sim ρ lab H w) {v:V} {x:Value} (hv:Rel ρ lab w v x):∃ lab',Ext lab w lab' w /\ Sim ρ lab' (a5b b v H).2 w /\ Rel ρ lab' w (a5b b v H).1 x:=by
 cases b with
 | false=>exact ⟨lab,.refl _ _,hS,hv⟩
 | true =>
  unfold a5b
  simp only
  split
  ·cases hv with
   | tuple _ xs h1 h2 =>
    obtain ⟨l,k1,k2,k3⟩:=b2S _ hS ⟨h1,h2⟩
    exact ⟨l,k1,k2,.tuple _ xs k3.1 k3.2⟩
  ·exact b2Q hS hv
theorem a2E {α β:Type} {f g:α -> Option β} (hfg:∀ a b,f a = some b -> g a = some b):∀ {l:List α} {r:List β},N7 f l = some r -> N7 g l = some r
 | [],r,h=>h
 | a :: t,r,h=>by
  simp only [N7] at h ⊢
  cases h1:f a with
  | none=>rw [h1] at h; cases h
  | some b =>
   rw [h1] at h
   simp only at h
   rw [hfg a b h1]
   cases h2:N7 f t with
   | none=>rw [h2] at h; cases h
   | some u=>rw [h2] at h; rw [a2E hfg h2]; exact h
theorem a9O {m m':Nat -> Option Nat} (hm:∀ k i,m k = some i -> m' k = some i):∀ (d:Nat) {v v':V},P6 m d v = some v' -> P6 m' d v = some v'
 | 0,v,v',h=>by cases h
 | d + 1,v,v',h=>by
  have ih:∀ a b,P6 m d a = some b -> P6 m' d a = some b:=fun a b h=>a9O hm d h
  cases v with
  | ptr r o=>simp only [P6] at h ⊢; (split at h; (· rename_i hr; rw [hm _ _ hr]; exact h); (· cases h))
  | rslice r o n w=>simp only [P6] at h ⊢; (split at h; (· rename_i hr; rw [hm _ _ hr]; exact h); (· cases h))
  | slice o n cs =>
   cases o with
   | tag g=>simp only [P6] at h ⊢; (split at h; (· rename_i hr; rw [hm _ _ hr]; exact h); (· cases h))
   | _=>exact h
  | func fn a b =>
   simp only [P6] at h ⊢
   split at h
   ·rename_i h1 h2; rw [a2E ih h1,a2E ih h2]; exact h
   ·cases h
  | iface t v =>
   simp only [P6] at h ⊢
   split at h
   ·rename_i h1; rw [ih _ _ h1]; exact h
   ·cases h
  | agg cs =>
   simp only [P6] at h ⊢
   split at h
   ·rename_i h1; rw [a2E ih h1]; exact h
   ·cases h
  | tuple cs =>
   simp only [P6] at h ⊢
   split at h
   ·rename_i h1; rw [a2E ih h1]; exact h
   ·cases h
  | _=>exact h
def Done (ρ:Rho) (lab:Lab) (H:Hp) (w:World) (v:V) (H':Hp) (x:Value) (w':World):Prop :=
 ∃ ρ' lab',Sim ρ' lab' H' w' /\ Ext lab w lab' w' /\ Q7 H.length ρ ρ' /\ Rel ρ' lab' w' v x /\ Canon 0 H' /\ H.length <= H'.length
def a1F (ρ:Rho) (lab:Lab) (H:Hp) (w:World):Out -> Ending -> World -> Prop
 | .ret v H',.returned x,w'=>Done ρ lab H w v H' x w'
 | .pan v H',.panicked ch,w'=>∃ x,ch = [{ v:=x,recovered:=false }] /\ Done ρ lab H w v H' x w'
 | _,_,_=>False
structure a2h (P:Program) (orc:Orc):Prop where
 call:∀ g args H out,orc (.call g args) H = some out -> ∀ ρ lab w xs,Canon 0 H -> Sim ρ lab H w -> o8 ρ lab w args xs -> Calls P g xs.toArray w (a1F ρ lab H w out)
 known:∀ g args H out,orc (.call g args) H = some out -> ∃ fn c,P.funcs[g]? = some fn /\ (fn.name == "runtime.NumGoroutine") = false /\ fn.body = some c
def Left (ρ:Rho) (lab:Lab) (w:World) (v:V) (H':Hp) (x:Value) (w':World):Prop:=∃ ρ' lab',Sim ρ' lab' H' w' /\ Ext lab w lab' w' /\ ρ.le ρ' /\ Rel ρ' lab' w' v x
def a7n (ρ:Rho) (lab:Lab) (w:World):OpR -> Ending -> World -> Prop
 | .val v H',.returned x,w'=>Left ρ lab w v H' x w'
 | .pan v H',.panicked ch,w'=>∃ x,ch = [{ v:=x,recovered:=false }] /\ Left ρ lab w v H' x w'
 | _,_,_=>False
theorem a6X (hO:a2h P orc) (hS:Sim ρ lab H w) {g:Nat} {args:List V} {xs:List Value} {r:OpR} (hx:o8 ρ lab w args xs) (h:O3 orc g args H = some r) :
  Calls P g xs.toArray w (a7n ρ lab w r) /\ ∃ fn c,P.funcs[g]? = some fn /\ (fn.name == "runtime.NumGoroutine") = false /\ fn.body = some c:=by
 unfold O3 at h
 split at h
 ·cases h
 ·rename_i G7 hm
  split at h
  ·rename_i v ho
   split at h
   ·rename_i v4 hv4
    cases h
    have hp:a0F H (idx · []) [] 0 = some []:=rfl
    have hS2:=hS.sub List.nodup_nil hp
    have hi:(idx · []) = a0M:=rfl
    rw [<- hi] at hm
    have hx2:o8 (ρ.sub []) (lab.sub []) w G7 xs:=hx.a9Z.ren (a5P []) hm
    refine ⟨(hO.call _ _ _ _ ho (ρ.sub []) (lab.sub []) w xs trivial hS2 hx2).mono (fun e w' he=>?_),hO.known _ _ _ _ ho⟩
    cases e with
    | returned x =>
     obtain ⟨ρ3,lab3,S3,E3,R3,hv3,c4,hl⟩:=he
     have hR:Ren a0M ρ3 ρ3 lab3 lab3:=⟨fun _ _ _ h=>(by cases h),fun _ _ _ _ h=>(by cases h),fun _ _ h=>h⟩
     have hv5:=Rel.ren hR dep hv4 hv3
     have hR2:∀ k i,a0M k = some i -> C9 [] 0 k = some i:=fun _ _ h=>(by cases h)
     have hv6:P6 (C9 [] 0) dep v = some v4:=a9O hR2 dep hv4
     exact a8h (k:=0) hS List.nodup_nil (fun i j hj=>by simp at hj) (Nat.zero_le 0) (.refl _) S3 E3 R3 c4 hl hv3 hv6 rfl rfl
    | panicked ch=>exact he.elim
    | outgrown=>exact he.elim
   ·cases h
  ·cases h
theorem b0X {H3:Hp} {k m:Nat} (h:a00 H H3 k m = true):a3c H k (H3.length - m) = true:=by
 simp only [a00,Bool.and_eq_true] at h; exact h.2
theorem a4W (hO:a2h P orc) (hS:Sim ρ lab H w) {k g:Nat} {args:List V} {xs:List Value} {r:OpR} (hx:o8 ρ lab w args xs) (h:H9 env orc k g args H = some r) :
    Calls P g xs.toArray w (a7n ρ lab w r) /\ ∃ fn c,P.funcs[g]? = some fn /\ (fn.name == "runtime.NumGoroutine") = false /\ fn.body = some c:=by
  unfold H9 at h
  split at h
  · exact a6X hO hS hx h
  simp only at h
  have hx1:o8 ρ lab w (Q0 (env.argTags g) (env.a1m g) args) xs:=by
    unfold Q0
    split
    · exact hx.b3b
    · exact hx.a9Z
  generalize Q0 (env.argTags g) (env.a1m g) args = a7J at h hx1
  generalize hns:reach H 99 (a7J.flatMap (O5 dep)) [] = ns at h
  have hn:ns.Nodup:=by rw [<- hns]; exact a0G _ _ _ _ List.nodup_nil
  split at h
  · rename_i G7 H2 hm hp
    obtain ⟨c1,c2,c3⟩:=a2L hp
    have hS2:=hS.sub hn hp
    have hx2:o8 (ρ.sub ns) (lab.sub ns) w G7 xs:=hx1.ren (a5P ns) hm
    have hk2:ns.length <= (V8 (env.argTags g) G7 ns.length).2:=by
      unfold V8
      split
      · exact a0f _ _
      · exact Nat.le_refl _
    have htg:∀ ρn:Rho,(ρ.sub ns).le ρn -> (∀ j,ns.length <= j -> j < (V8 (env.argTags g) G7 ns.length).2 -> ρn.hd j 0 = some (none,0)) ->
        o8 ρn (lab.sub ns) w (V8 (env.argTags g) G7 ns.length).1 xs:=by
      intro ρn hle hh
      unfold V8 at hh ⊢
      split at hh
      · exact a2S hle _ _ _ hh hx2
      · exact hx2.up hle
    generalize V8 (env.argTags g) G7 ns.length = aa at h hk2 htg
    have hmr:=Y1 H2 aa.2
    obtain ⟨ρn,k1,_,k3,k4,k5,k6⟩:=hS2.a3C c1 (G:=[]) (k2:=aa.2) trivial (fun j o h=>by cases h) (by rw [List.length_nil,c2]; exact hk2)
    simp only [List.length_nil,Nat.add_zero,List.append_nil,c2] at k3 k4 k5 k6
    generalize hHc:(F3 H2 aa.2).1 ++ a4J ns.length ((F3 H2 aa.2).2 - ns.length) = Hc at h k4 k5 k6
    have hx3:=htg ρn k1 (fun j h1 h2=>k3 j h1 (by omega))
    obtain ⟨ρf,f1,f2,f3,f4,f5⟩:=fullC_ok (b:=env.full) k4 k5 hx3
    have k4:=f2; have k5:=f3; have k1:=k1.trans f1; have hx3:=f4; have k6:=Nat.le_trans k6 f5
    generalize a3T env.full aa.1 Hc = cc at h k4 k5 hx3 k6
    have hpick:∀ i j:Nat,ns[i]? = some j -> hget j H ≠ none:=fun i j hj=>by
      obtain ⟨o,o',g1,_⟩:=c3 i j hj
      rw [g1]; simp
    split at h
    · rename_i v H3 ho
      split at h
      · rename_i v4 H4 hv4 hm4
        split at h
        · rename_i hf
          cases h
          refine ⟨(hO.call _ _ _ _ ho ρf (lab.sub ns) w xs k5 k4 hx3).mono (fun e w' he=>?_),hO.known _ _ _ _ ho⟩
          cases e with
          | returned x =>
            obtain ⟨ρ3,lab3,S3,E3,R3,hv3,c4,hl⟩:=he
            exact a8h hS hn hpick k6 k1 S3 E3 R3 c4 hl hv3 hv4 hm4 (b0X hf)
          | panicked ch=>exact he.elim
          | outgrown=>exact he.elim
        · cases h
      · cases h
    · rename_i v H3 ho
      split at h
      · rename_i v4 H4 hv4 hm4
        split at h
        · rename_i hf
          cases h
          refine ⟨(hO.call _ _ _ _ ho ρf (lab.sub ns) w xs k5 k4 hx3).mono (fun e w' he=>?_),hO.known _ _ _ _ ho⟩
          cases e with
          | returned x=>exact he.elim
          | panicked ch =>
            obtain ⟨x,hch,ρ3,lab3,S3,E3,R3,hv3,c4,hl⟩:=he
            exact ⟨x,hch,a8h hS hn hpick k6 k1 S3 E3 R3 c4 hl hv3 hv4 hm4 (b0X hf)⟩
          | outgrown=>exact he.elim
        · cases h
      · cases h
    · cases h
  · cases h
theorem Sim.same {A B:Hp} (hS:Sim ρ lab A w) (h:∀ k,hget k A = hget k B):Sim ρ lab B w where
 row:=fun k cs hk=>hS.row k cs (by rw [h]; exact hk)
 grow:=fun k e cs hk=>hS.grow k e cs (by rw [h]; exact hk)
 tip:=fun k e n hk=>hS.tip k e n (by rw [h]; exact hk)
 hdom:=fun k n x hx=>by
  obtain ⟨e,m,h1,h2⟩:=hS.hdom k n x hx
  exact ⟨e,m,by rw [<- h]; exact h1,h2⟩
 adom:=fun k x hx=>by rw [<- h]; exact hS.adom k x hx
 ldom:=hS.ldom
theorem b2c {r r':OpR} (h:b1f H r = some r'):∃ v H4,r = .val v H4 /\ r' = .val v H /\ ∀ k,hget k H4 = hget k H:=by
 unfold b1f at h
 split at h
 ·rename_i v H4
  split at h
  ·rename_i hs
   cases h
   exact ⟨v,H4,rfl,rfl,b3P hs⟩
  ·cases h
 ·cases h
theorem a0Y {k g:Nat} {args:List V} {r:OpR} (h:P7 env orc k g args H = some r) :
  (H9 env orc k g args H = some r /\ (env.quiet g = true ∨ env.look g = false)) ∨ (env.quiet g = false /\ env.look g = true /\ ∃ v H4,H9 env orc k g args H = some (.val v H4) /\ r = .val v H /\ ∀ k,hget k H4 = hget k H):=by
 unfold P7 at h
 split at h
 ·rename_i hq
  left
  refine ⟨?_,.inl hq⟩
  unfold H9
  rw [hq]; exact h
 ·rename_i hq
  split at h
  ·rename_i hl; exact .inl ⟨h,.inr hl⟩
  ·rename_i hl
   split at h
   ·rename_i r0 hr
    obtain ⟨v,H4,rfl,h2,h3⟩:=b2c h
    exact .inr ⟨hq,hl,v,H4,hr,h2,h3⟩
   ·cases h
theorem callW_ok (hO:a2h P orc) (hS:Sim ρ lab H w) {k g:Nat} {args:List V} {xs:List Value} {r:OpR} (hx:o8 ρ lab w args xs) (h:P7 env orc k g args H = some r) :
  Calls P g xs.toArray w (a7n ρ lab w r) /\ ∃ fn c,P.funcs[g]? = some fn /\ (fn.name == "runtime.NumGoroutine") = false /\ fn.body = some c:=by
 rcases a0Y h with ⟨h1,_⟩ | ⟨_,_,v,H4,h1,rfl,h3⟩
 ·exact a4W hO hS hx h1
 ·obtain ⟨k1,k2⟩:=a4W hO hS hx h1
  refine ⟨k1.mono fun e w' he=>?_,k2⟩
  cases e with
  | returned x =>
   obtain ⟨ρ',lab',s1,s2,s3,s4⟩:=he
   exact ⟨ρ',lab',s1.same h3,s2,s3,s4⟩
  | panicked ch=>exact he.elim
  | outgrown=>exact he.elim
theorem a9P {f:FuncId} {fn:Func} {c:Code} (hf:P.funcs[f]? = some fn) (hname:(fn.name == "runtime.NumGoroutine") = false) (hb:fn.body = some c) (args:Array Value) (w:World) :
  (callFunc f args).run P w = .ok (.enter f args) w:=by
 have h1:fn.name ≠ "runtime.NumGoroutine":=by simpa using hname
 simp [callFunc,hf,h1,hb]
def Post (nr n:Nat) (ρ:Rho) (lab:Lab) (w:World) (r:Res) (e:Exit) (a:Act) (w':World):Prop :=
 ∃ ρ' lab',Sim ρ' lab' r.2.2 w' /\ Ext lab w lab' w' /\ Q7 nr ρ ρ' /\ a.defers = [] /\
  match r.1,e with
  | .normal,.normal=>FOk ρ' lab' w' r.2.1 a n
  | .ret,.ret=>FOk ρ' lab' w' r.2.1 a n
  | .exit i,.exit j=>i = j /\ FOk ρ' lab' w' r.2.1 a n
  | .panic v,.panic ch=>∃ x,ch = [{ v:=x,recovered:=false }] /\ Rel ρ' lab' w' v x
  | _,_=>False
theorem Post.trans {lab':Lab} {w' w'':World} {r:Res} {e:Exit} (E:Ext lab w lab' w') (R:Q7 nr ρ ρ') (h:Post nr n ρ' lab' w' r e a w''):Post nr n ρ lab w r e a w'':=by
 obtain ⟨ρ2,lab2,h1,h2,h3,h4⟩:=h
 exact ⟨ρ2,lab2,h1,E.trans h2,R.trans h3 (Nat.le_refl _),h4⟩
def methB (P:Program) (t:Nat) (name:String) (g:Nat):Bool:=match P.info? t,P.underlying t with
 | some i,some d=>match i.methods.find? (·.name == name) with
  | none=>false
  | some m=>m.path.isEmpty && (match m.func,d with
   | some (f,true),.pointer _=>Nat.beq f g
   | some (_,false),.pointer _=>false
   | some (f,false),_=>Nat.beq f g
   | _,_=>false)
 | _,_=>false
theorem b2e {P:Program} {t g:Nat} {name:String} (h:methB P t name g = true) (n:Nat) (v:Value) (w:World):(method (n + 1) t v name).run P w = .ok (g,v) w:=by
 unfold methB at h
 split at h
 ·rename_i i d hi hd
  split at h
  ·cases h
  ·rename_i m hm
   simp only [Bool.and_eq_true] at h
   obtain ⟨h1,h2⟩:=h
   have hp:m.path.toList = []:=by
    have:m.path = #[]:=by simpa using h1
    simp [this]
   have ht:=a0L hi w
   have hu:=q9 hd w
   split at h2
   ·rename_i f _ hf
    have:=Nat.eq_of_beq_eq_true h2
    subst this
    unfold method
    simp only [Sem.run_bind,ht,Result.andThen_ok,hm,hp,follow,Sem.run_pure,hf,receiverAt,hu,Place.get]
   ·cases h2
   ·rename_i f hf hnp
    have:=Nat.eq_of_beq_eq_true h2
    subst this
    unfold method
    simp only [Sem.run_bind,ht,Result.andThen_ok,hm,hp,follow,Sem.run_pure,hf,receiverAt,hu]
    first
     | rfl
     | (rename_i d1 _ _ _; cases d1 <;> first | exact absurd rfl (hnp _) | rfl)
     | (rename_i d1 _ _; cases d1 <;> first | exact absurd rfl (hnp _) | rfl)
     | (rename_i d1 _; cases d1 <;> first | exact absurd rfl (hnp _) | rfl)
     | (rename_i d1 _ _ _ _; cases d1 <;> first | exact absurd rfl (hnp _) | rfl)
   ·cases h2
 ·cases h
def a2i (env:Env):Prop:=∀ t name g,env.meth t name = some g -> methB env.P t name g = true
theorem call_run (hM:a2i env) (hO:a2h env.P orc) (hS:Sim ρ lab H w) (hF:Y6 ρ lab w fr a.tmps) {o:Oper} {r:OpR} (hc:a7s o.op = true) (h:H8 env orc fr H o = some r) :
  ∃ g args,(execOp a.eval o).run env.P w = .ok (.enter g args) w /\ Calls env.P g args w (a7n ρ lab w r):=by
 obtain ⟨dst,op,type,pos,after,guard⟩:=o
 unfold H8 at h
 simp only at h hc
 split at h <;> try (cases hc; done)
 ·rename_i f args at_
  split at h
  ·rename_i g first captured l hf hl
   have hb:=K3 hF hf
   generalize hcv:a.eval f = cv at hb
   cases hb with
   | func _ _ _ xs ys h1 h2 h3 h4 =>
   have hl':=b0l hF hl
   have hr:o8 ρ lab w (first ++ l ++ captured) (xs ++ args.toList.map a.eval ++ ys):=o8.append (o8.append ⟨h1,h3⟩ hl') ⟨h2,h4⟩
   obtain ⟨k1,fn,c,k2,k3,k4⟩:=callW_ok hO hS hr h
   refine ⟨g,_,?_,k1⟩
   simp only [execOp,resolve,hcv,Deferred.ofValue,Sem.run_bind,Sem.run_pure,Result.andThen_ok,invoke]
   rw [a9P k2 k3 k4]
   congr 2
   simp
  ·cases h
 ·rename_i rc m args at_
  split at h
  ·rename_i t v l hr hl
   split at h
   ·rename_i g hg
    have hb:=K3 hF hr
    generalize hcv:a.eval rc = cv at hb
    cases hb with
    | iface _ _ x hx =>
    have hl':=b0l hF hl
    have hrl:o8 ρ lab w (v :: l) (x :: args.toList.map a.eval):=l9.2 ⟨_,_,rfl,hx,hl'⟩
    obtain ⟨k1,fn,c,k2,k3,k4⟩:=a4W hO hS hrl h
    refine ⟨g,_,?_,k1⟩
    have hm:=fun w=>b2e (hM t m g hg) (env.P.types.size + (Made.depth - 1)) x w
    have hd:env.P.types.size + (Made.depth - 1) + 1 = env.P.types.size + Made.depth:=by simp [Made.depth]
    rw [hd] at hm
    simp only [execOp,resolve,hcv,Sem.run_bind,Sem.run_pure,Result.andThen_ok,invoke]
    simp only [Array.getElem?_append,Array.size_singleton,Nat.zero_lt_one,if_true,List.getElem?_toArray,List.getElem?_cons_zero,callMethod,Sem.run_bind,run_program,Result.andThen_ok,hm]
    rw [show (#[x] ++ (#[Value.iface t x] ++ Array.map a.eval args).extract 1 (#[Value.iface t x] ++ Array.map a.eval args).size) = (x :: args.toList.map a.eval).toArray from ?_]
    ·exact a9P k2 k3 k4 _ _
    ·apply Array.ext'; simp [Array.toList_extract]; exact List.take_of_length_le (by simp)
   ·cases h
  ·cases h
 ·cases h
theorem Oper.wp_ok {o:Oper} {next:Act -> World -> Prop} {Q:Exit -> Act -> World -> Prop} {x:Next} {w':World} (h:(execOp a.eval o).run P w = .ok x w') (hq:o.upon P a next Q (.ok x w')):o.wp P a w next Q:=by
 unfold Oper.wp; rw [h]; exact hq
theorem a3l (hM:a2i env) (hT:TOk env.P env.T) (hO:a2h env.P orc) {ops:Array Oper} {Q:Exit -> Act -> World -> Prop} (hdst:∀ (i:Nat) (o:Oper) (d:Nat),ops[i]? = some o -> o.dst = some d -> d < n) :
  ∀ (l:List Nat) (ρ:Rho) (lab:Lab) (w:World) (H:Hp) (fr:Fr) (a:Act) (r:Res),p8 env orc ops (l.filterMap (ops[·]?)) fr H = some r -> Sim ρ lab H w -> FOk ρ lab w fr a n ->
   (∀ e a' w',Post nr n ρ lab w r e a' w' -> Q e a' w') -> wpOps env.P ops Q l a w
 | [],ρ,lab,w,H,fr,a,r,h,hS,hF,hQ=>by
  simp only [List.filterMap_nil,p8] at h; cases h
  exact hQ _ _ _ ⟨ρ,lab,hS,.refl _ _,Q7.of_le (.refl _) _,hF.defers,hF⟩
 | i :: l,ρ,lab,w,H,fr,a,r,h,hS,hF,hQ=>by
  unfold wpOps
  cases ho:ops[i]? with
  | none =>
   simp only [List.filterMap_cons,ho] at h
   exact a3l hM hT hO hdst l ρ lab w H fr a r h hS hF hQ
  | some o =>
   simp only [List.filterMap_cons,ho,p8] at h
   have hd:=fun d=>hdst i o d ho
   simp only
   cases hw:o6 ops o fr with
   | none=>rw [hw] at h; cases h
   | some b =>
    have hw2:=b37 hF hw
    rw [hw] at h
    rw [hw2]
    cases b with
    | false =>
     simp only [Bool.false_eq_true,if_false] at h ⊢
     exact a3l hM hT hO hdst l ρ lab w H _ _ r h hS (hF.put hd (.tuple [] [] rfl (by simp))) hQ
    | true =>
     simp only [if_true] at h ⊢
     refine .inl ?_
     unfold D5 at h
     cases hp:F6 o.op with
     | true =>
      rw [hp] at h
      simp only at h
      cases hv:J7 env.T fr o.op with
      | none=>rw [hv] at h; cases h
      | some v =>
       rw [hv] at h
       simp only at h
       obtain ⟨x,w1,h1,h2,h3⟩:=pure_ok hT hS.ldom hF.rel hv
       refine Oper.wp_ok h1 ?_
       have E:=h2.ext lab
       refine a3l hM hT hO hdst l ρ lab w1 H _ _ r h (hS.grew h2) ((hF.ext E (.refl _)).put hd h3) (fun e a' w' hq=>hQ e a' w' (hq.trans E (Q7.of_le (.refl _) _)))
     | false =>
      rw [hp] at h
      simp only at h
      cases hv:H8 env orc fr H o with
      | none=>rw [hv] at h; cases h
      | some res =>
       rw [hv] at h
       cases hcv:a7s o.op with
       | false =>
        cases res with
        | val v H1 =>
         simp only at h
         obtain ⟨nx,x,w1,ρ1,X5,h1,h2,h3,h4,h5,h6⟩:=eff_run hT hS hF.rel hcv hv
         have key:wpOps env.P ops Q l (a.put o.dst x) w1 :=
          a3l hM hT hO hdst l ρ1 X5 w1 H1 _ _ r h h3 ((hF.ext h4 h5).put hd h6) (fun e a' w' hq=>hQ e a' w' (hq.trans h4 (Q7.of_le h5 _)))
         refine Oper.wp_ok h1 ?_
         rcases h2 with rfl | ⟨rfl,rfl⟩
         ·exact key
         ·exact key
        | pan v H1 =>
         simp only at h
         cases h
         obtain ⟨x,h1,rfl,h2⟩:=b3B hF.rel hcv hv
         unfold Oper.wp; rw [h1]
         exact hQ _ _ _ ⟨ρ,lab,hS,.refl _ _,Q7.of_le (.refl _) _,hF.defers,x,rfl,h2⟩
       | true =>
        obtain ⟨g,args,h1,h2⟩:=call_run hM hO hS hF.rel hcv hv
        refine Oper.wp_ok h1 ?_
        rw [Oper.upon_enter]
        refine h2.mono (fun e w1 he=>?_)
        cases res with
        | val v H1 =>
         cases e with
         | returned x =>
          obtain ⟨ρ1,X5,h3,h4,h5,h6⟩:=he
          exact a3l hM hT hO hdst l ρ1 X5 w1 H1 _ _ r h h3 ((hF.ext h4 h5).put hd h6) (fun e a' w' hq=>hQ e a' w' (hq.trans h4 (Q7.of_le h5 _)))
         | panicked ch=>exact he.elim
         | outgrown=>exact he.elim
        | pan v H1 =>
         simp only at h
         cases h
         cases e with
         | returned x=>exact he.elim
         | panicked ch =>
          obtain ⟨x,rfl,ρ1,X5,h3,h4,h5,h6⟩:=he
          exact hQ _ _ _ ⟨ρ1,X5,h3,h4,Q7.of_le h5 _,hF.defers,x,rfl,h6⟩
         | outgrown=>exact he.elim
end
end Go.Vm
namespace Go.Vm
section
variable {env:Env} {orc:Orc} {fr fr':Fr} {H:Hp} {T:List (Nat × Ty)} {ops:Array Oper}
def a1J (env:Env):Op -> Bool
 | .load ..=>true
 | .call { callee:=.value (.func g),.. }=>env.quiet g || env.look g
 | _=>false
def isLd (o:Oper):Bool:=match W9 o with
 | some _=>true
 | none=>false
def a9m (env:Env) (ops:Array Oper) (b:Bool) (x y:Oper):Bool:=x.apart ops y && ((F6 x.op || F6 y.op || (a1J env x.op && a1J env y.op)) || (b && (isLd x || isLd y || (U9 x && U9 y))))
def b0D (ops:Array Oper):Nat -> Nat -> Nat -> Bool
 | 0,_,_=>false
 | d + 1,i,j=>match ops[i]? with
  | none=>false
  | some o=>o.after.toList.any fun e=>Region.binds .any e && (Nat.beq e.on j || b0D ops d e.on j)
def a6k (ops:Array Oper):Bool:=(List.range ops.size).all fun i=>match ops[i]? with
 | none=>true
 | some o=>o.after.toList.all fun e=>!Region.binds .any e || Nat.blt e.on i
def b2l (env:Env) (ops:Array Oper) (b:Bool):Bool:=(List.range ops.size).all fun i=>(List.range i).all fun j=>match ops[j]?,ops[i]? with
 | some x,some y=>a9m env ops b x y || b0D ops 8 i j
 | _,_=>true
def safeB:List Oper -> Bool
 | []=>true
 | o :: r=>(match W9 o with
  | some t=>(o :: r).all fun z=>match z.dst with | some d=>!Nat.beq d t | none=>true
  | none=>true) && safeB r
def drawB (env:Env) (ops:Array Oper) (b:Bool):Bool:=a6k ops && b2l env ops b && (!b || safeB ops.toList)
def a1Y (a b:Fr):Prop:=∀ t,look t a = look t b
theorem a1Y.refl (a:Fr):a1Y a a:=fun _=>rfl
theorem a1Y.trans {a b c:Fr} (h:a1Y a b) (g:a1Y b c):a1Y a c:=fun t=>(h t).trans (g t)
theorem U5 (d:Option Nat) (v:V) (fr:Fr) (t:Nat):look t (K8 d v fr) = if d = some t then v else look t fr:=by
 cases d with
 | none=>simp [K8]
 | some d=>simp only [K8,a6s,Option.some.injEq]
theorem a0C {α β:Type} {f g:α -> Option β}:∀ {l:List α},(∀ a ∈ l,f a = g a) -> N7 f l = N7 g l
 | [],_=>rfl
 | a :: t,h=>by simp only [N7]; rw [h a (List.mem_cons_self ..),a0C (fun b hb=>h b (List.mem_cons_of_mem _ hb))]
theorem a9o {l:List (Nat × Operand)} (h:∀ x ∈ l.map (·.2),ev fr x = ev fr' x):evP fr l = evP fr' l:=by
 unfold evP
 exact a0C fun p hp=>by rw [h p.2 (List.mem_map_of_mem hp)]
theorem a6l {o:Option Operand} (h:∀ x ∈ o.toList,ev fr x = ev fr' x):evX fr o = evX fr' o:=by
 cases o with
 | none=>rfl
 | some x=>simp only [evX]; rw [h x (by simp)]
theorem a7e {op:Op} (h:∀ x ∈ op.operands.toList,ev fr x = ev fr' x):J7 T fr op = J7 T fr' op:=by
  cases op with
  | build t ps=>simp only [J7]; rw [a9o (fr:=fr) (fr':=fr') fun x hx=>h x (by simpa [Op.operands] using hx)]
  | buildSlice t n ps=>simp only [J7]; rw [a9o (fr:=fr) (fr':=fr') fun x hx=>h x (by simpa [Op.operands] using hx)]
  | makeFunc fn a b =>
    simp only [J7,evL]
    rw [a0C (f:=ev fr) (g:=ev fr') fun x hx=>h x (by simp only [Op.operands,Array.toList_append,List.mem_append]; exact .inl hx),
      a0C (f:=ev fr) (g:=ev fr') fun x hx=>h x (by simp only [Op.operands,Array.toList_append,List.mem_append]; exact .inr hx)]
  | slice t x lo hi mx =>
    simp only [J7]
    rw [h x (by simp [Op.operands]),a6l (o:=lo) (fr:=fr) (fr':=fr') fun y hy=>h y (by simp [Op.operands]; simp at hy; simp [hy]),
      a6l (o:=hi) (fr:=fr) (fr':=fr') fun y hy=>h y (by simp [Op.operands]; simp at hy; simp [hy]),
      a6l (o:=mx) (fr:=fr) (fr':=fr') fun y hy=>h y (by simp [Op.operands]; simp at hy; simp [hy])]
  | call c =>
    obtain ⟨callee,args,argTypes⟩:=c
    cases callee with
    | builtin b =>
      have h':∀ x ∈ args.toList,ev fr x = ev fr' x:=fun x hx=>h x (by simpa [Op.operands,Call.operands] using hx)
      generalize hl:args.toList = l at h'
      cases b <;> simp only [J7,hl] <;> first
        | rfl
        | (cases l with
           | nil=>rfl
           | cons a r =>
             cases r with
             | nil =>
               have ha:=h' a (by simp)
               generalize argTypes.toList = u
               cases u <;> first | rfl | simp only [ha]
             | cons b r =>
               cases r with
               | nil=>first | rfl | simp only [h' a (by simp),h' b (by simp)]
               | cons c r=>rfl)
    | _=>rfl
  | _ =>
    simp only [Op.operands] at h
    simp only [J7] <;> first
      | rfl
      | (simp at h; simp only [h])
theorem a6U {o:Oper} (h:∀ x ∈ o.op.operands.toList,ev fr x = ev fr' x):H8 env orc fr H o = H8 env orc fr' H o:=by
  obtain ⟨dst,op,type,pos,after,guard⟩:=o
  cases op with
  | call c =>
    obtain ⟨callee,args,argTypes⟩:=c
    cases callee with
    | builtin b =>
      have h':∀ x ∈ args.toList,ev fr x = ev fr' x:=fun x hx=>h x (by simpa [Op.operands,Call.operands] using hx)
      generalize hl:args.toList = l at h'
      cases b <;> simp only [H8,hl] <;> first
        | rfl
        | (cases l with
           | nil=>rfl
           | cons a r =>
             cases r with
             | nil=>rfl
             | cons b r =>
               cases r with
               | nil =>
                 have ha:=h' a (by simp)
                 have hb:=h' b (by simp)
                 generalize argTypes.toList = u
                 rcases u with _ | ⟨t,_ | ⟨u2,_ | _⟩⟩ <;> first | rfl | (simp only [ha,hb]; done) | (simp only [ha,hb]; rfl)
               | cons c r=>rfl)
    | value f =>
      simp only [H8,evL]
      rw [h f (by simp [Op.operands,Call.operands]),a0C (f:=ev fr) (g:=ev fr') fun x hx=>h x (by simp [Op.operands,Call.operands]; exact .inr (by simpa using hx))]
    | invoke r m =>
      simp only [H8,evL]
      rw [h r (by simp [Op.operands,Call.operands]),a0C (f:=ev fr) (g:=ev fr') fun x hx=>h x (by simp [Op.operands,Call.operands]; exact .inr (by simpa using hx))]
  | makeMap t r=>cases r <;> rfl
  | _ =>
    simp only [Op.operands] at h
    simp only [H8,newName] <;> first
      | rfl
      | (simp at h; simp only [h]; done)
      | (simp at h; simp only [h]; rfl)
def opV (env:Env) (orc:Orc) (ops:Array Oper) (o:Oper) (fr:Fr) (H:Hp):Option (V × Hp) :=
 match o6 ops o fr with
 | none=>none
 | some false=>some (.tuple [],H)
 | some true=>match D5 env orc fr H o with
  | some (.val v H)=>some (v,H)
  | _=>none
theorem J4 {o:Oper} {r:List Oper} {f1:Fr} {H1:Hp}:p8 env orc ops (o :: r) fr H = some (.normal,f1,H1) ↔ ∃ v H',opV env orc ops o fr H = some (v,H') /\ p8 env orc ops r (K8 o.dst v fr) H' = some (.normal,f1,H1):=by
 simp only [p8,opV]
 cases o6 ops o fr with
 | none=>simp
 | some b =>
  have key:∀ (v:V) (K:Hp),(p8 env orc ops r (K8 o.dst v fr) K = some (.normal,f1,H1)) ↔ ∃ v' H',some (v,K) = some (v',H') /\ p8 env orc ops r (K8 o.dst v' fr) H' = some (.normal,f1,H1) :=
   fun v K=>⟨fun h=>⟨v,K,rfl,h⟩,fun ⟨v',H',h1,h2⟩=>by cases h1; exact h2⟩
  cases b with
  | false=>exact key _ _
  | true =>
   simp only
   cases D5 env orc fr H o with
   | none=>simp
   | some x =>
    cases x with
    | val v H'=>exact key _ _
    | pan v H'=>simp
theorem a6w {o:Oper} (h:∀ t ∈ o.looksAt ops,look t fr = look t fr'):opV env orc ops o fr H = opV env orc ops o fr' H:=by
 have hop:∀ x ∈ o.op.operands.toList,ev fr x = ev fr' x:=by
  intro x hx
  cases x with
  | tmp t=>simp only [ev]; rw [h t (List.mem_append_left _ (List.mem_filterMap.2 ⟨.tmp t,hx,rfl⟩))]
  | _=>rfl
 have hw:o6 ops o fr = o6 ops o fr':=by
  unfold o6
  cases hg:o.guard with
  | none=>rfl
  | some p =>
   obtain ⟨j,want⟩:=p
   simp only [a4m]
   cases hd:(ops[j]?).bind (·.dst) with
   | none=>rfl
   | some t=>simp only; rw [h t (by simp [Oper.looksAt,hg,hd])]
 simp only [opV,hw,D5,a7e hop,a6U hop]
theorem a8p {o:Oper} (hp:F6 o.op = true) {v:V} {H':Hp} (h:opV env orc ops o fr H = some (v,H')):H' = H /\ ∀ H2,opV env orc ops o fr H2 = some (v,H2):=by
 simp only [opV,D5,hp] at h ⊢
 cases hw:o6 ops o fr with
 | none=>rw [hw] at h; cases h
 | some b =>
  rw [hw] at h
  cases b with
  | false=>simp only [Option.some.injEq,Prod.mk.injEq] at h; obtain ⟨rfl,rfl⟩:=h; exact ⟨rfl,fun _=>rfl⟩
  | true =>
   simp only at h ⊢
   cases hv:J7 env.T fr o.op with
   | none=>rw [hv] at h; cases h
   | some u=>rw [hv] at h; simp only [Option.some.injEq,Prod.mk.injEq] at h; obtain ⟨rfl,rfl⟩:=h; exact ⟨rfl,fun _=>rfl⟩
theorem b2h {o:Oper} (hp:a1J env o.op = true) {v:V} {H':Hp} (h:H8 env orc fr H o = some (.val v H')):H' = H:=by
 obtain ⟨dst,op,type,pos,after,guard⟩:=o
 unfold a1J at hp
 simp only at hp
 split at hp
 ·simp only [H8] at h
  split at h
  ·split at h
   ·cases h; rfl
   ·cases h
  ·cases h
 ·rename_i g args argTypes
  simp only [H8,ev] at h
  split at h
  ·rename_i g' first captured l hf hl
   simp only [Option.some.injEq,V.func.injEq,Fn.func.injEq] at hf
   obtain ⟨rfl,_,_⟩:=hf
   rcases a0Y h with ⟨h1,h2⟩ | ⟨_,_,v',H4,h1,h2,_⟩
   ·have hq:env.quiet g = true:=by
     rcases h2 with h2 | h2
     ·exact h2
     ·rw [h2,Bool.or_false] at hp; exact hp
    simp only [H9,hq,O3] at h1
    split at h1
    ·cases h1
    ·split at h1
     ·split at h1
      ·cases h1; rfl
      ·cases h1
     ·cases h1
   ·cases h2; rfl
  ·cases h
 ·cases hp
theorem a8o {o:Oper} (hp:a1J env o.op = true) {v:V} {H':Hp} (h:opV env orc ops o fr H = some (v,H')):H' = H:=by
 simp only [opV,D5] at h
 cases hw:o6 ops o fr with
 | none=>rw [hw] at h; cases h
 | some b =>
  rw [hw] at h
  cases b with
  | false=>simp only [Option.some.injEq,Prod.mk.injEq] at h; exact h.2.symm
  | true =>
   simp only at h
   cases hq:F6 o.op with
   | true =>
    rw [hq] at h
    simp only at h
    cases hv:J7 env.T fr o.op with
    | none=>rw [hv] at h; cases h
    | some u=>rw [hv] at h; simp only [Option.some.injEq,Prod.mk.injEq] at h; exact h.2.symm
   | false =>
    rw [hq] at h
    simp only at h
    cases hv:H8 env orc fr H o with
    | none=>rw [hv] at h; cases h
    | some u =>
     cases u with
     | val u H2=>rw [hv] at h; simp only [Option.some.injEq,Prod.mk.injEq] at h; obtain ⟨rfl,rfl⟩:=h; exact b2h hp hv
     | pan u H2=>rw [hv] at h; cases h
theorem a4O:∀ {l:List Oper} {fr fr':Fr} {H:Hp} {f1:Fr} {H1:Hp},a1Y fr fr' -> p8 env orc ops l fr H = some (.normal,f1,H1) -> ∃ f2,p8 env orc ops l fr' H = some (.normal,f2,H1) /\ a1Y f1 f2
 | [],fr,fr',H,f1,H1,e,h=>by simp only [p8,Option.some.injEq,Prod.mk.injEq,true_and] at h ⊢; obtain ⟨rfl,rfl⟩:=h; exact ⟨fr',⟨rfl,rfl⟩,e⟩
 | o :: r,fr,fr',H,f1,H1,e,h=>by
  obtain ⟨v,H',h1,h2⟩:=J4.1 h
  rw [a6w (fr':=fr') fun t _=>e t] at h1
  obtain ⟨f2,h3,h4⟩:=a4O (fr':=K8 o.dst v fr') (fun t=>by rw [U5,U5,e t]) h2
  exact ⟨f2,J4.2 ⟨v,H',h1,h3⟩,h4⟩
def HFree (env:Env) (orc:Orc) (ops:Array Oper) (o:Oper) (fr:Fr):Prop:=∀ (v:V) (H H':Hp),opV env orc ops o fr H = some (v,H') -> H' = H /\ ∀ H2,opV env orc ops o fr H2 = some (v,H2)
theorem a9E {o:Oper} {t:Nat} (hl:W9 o = some t) (ha:a1K (look t fr) = true):HFree env orc ops o fr:=by
 have ho:∃ ty,o.op = .load ty (.tmp t):=by
  unfold W9 at hl
  split at hl
  ·rename_i ty t' he; cases hl; exact ⟨ty,he⟩
  ·cases hl
 obtain ⟨ty,ho⟩:=ho
 obtain ⟨cs,hcs⟩:∃ cs,look t fr = .cptr cs:=by
  cases hv:look t fr <;> rw [hv] at ha <;> first | cases ha; done | exact ⟨_,rfl⟩
 intro v H H' h
 simp only [opV] at h ⊢
 cases hw:o6 ops o fr with
 | none=>rw [hw] at h; cases h
 | some w =>
  rw [hw] at h
  cases w with
  | false=>simp only [Option.some.injEq,Prod.mk.injEq] at h; obtain ⟨rfl,rfl⟩:=h; exact ⟨rfl,fun _=>rfl⟩
  | true =>
   have hp:F6 o.op = false:=by rw [ho]; rfl
   have he:∀ K,D5 env orc fr K o = match Z4 env.T ty (.cptr cs) [] with | some v=>some (.val v K) | none=>none:=by
    intro K
    simp only [D5,hp]
    unfold H8
    rw [ho]
    simp only [ev,hcs]
    have hK:Z4 env.T ty (.cptr cs) K = Z4 env.T ty (.cptr cs) []:=by unfold Z4; cases G5 ty env.T <;> rfl
    rw [hK]
    cases Z4 env.T ty (.cptr cs) [] <;> rfl
   simp only [he] at h ⊢
   cases hq:Z4 env.T ty (.cptr cs) [] with
   | none=>rw [hq] at h; cases h
   | some u=>rw [hq] at h; simp only [Option.some.injEq,Prod.mk.injEq] at h; obtain ⟨rfl,rfl⟩:=h; exact ⟨rfl,fun _=>rfl⟩
theorem nbeq {a c:Nat} (h:a ≠ c):Nat.beq a c = false:=by
 cases hb:Nat.beq a c with
 | false=>rfl
 | true=>exact absurd (Nat.eq_of_beq_eq_true hb) h
theorem a2z {j k:Nat} {o p:Obj} (h:j ≠ k):∀ H:Hp,hset j o (hset k p H) = hset k p (hset j o H)
 | []=>by
  have h1:Nat.beq j k = false:=nbeq h
  have h2:Nat.beq k j = false:=nbeq (Ne.symm h)
  simp only [hset,h1,h2]
  rcases Nat.lt_or_ge j k with h3 | h3
  ·rw [Nat.ble_eq_true_of_le (by omega:j <= k),show Nat.ble k j = false by rw [<- Bool.not_eq_true,Nat.ble_eq]; omega]
  ·rw [Nat.ble_eq_true_of_le (by omega:k <= j),show Nat.ble j k = false by rw [<- Bool.not_eq_true,Nat.ble_eq]; omega]
 | (s,x) :: r=>by
  have ih:=a2z (o:=o) (p:=p) h r
  have b1:∀ {a c:Nat},a ≠ c -> Nat.beq a c = false:=fun h=>nbeq h
  have b2:∀ {a c:Nat},¬ a <= c -> Nat.ble a c = false:=fun h=>by rw [<- Bool.not_eq_true,Nat.ble_eq]; exact h
  by_cases hj:s = j
  ·subst hj
   by_cases hk:Nat.ble k s = true
   ·simp [hset,b1 h,b1 (Ne.symm h),hk,b2 (show ¬ s <= k by have:=Nat.le_of_ble_eq_true hk; omega)]
   ·simp only [Bool.not_eq_true] at hk
    simp [hset,b1 h,hk]
  ·by_cases hk:s = k
   ·subst hk
    by_cases hj2:Nat.ble j s = true
    ·simp [hset,b1 h,b1 (Ne.symm h),b1 hj,hj2,b2 (show ¬ s <= j by have:=Nat.le_of_ble_eq_true hj2; omega)]
    ·simp only [Bool.not_eq_true] at hj2
     simp [hset,b1 hj,hj2]
   ·by_cases h1:Nat.ble j s = true
    ·by_cases h2:Nat.ble k s = true
     ·rcases Nat.lt_or_ge j k with h3 | h3
      ·simp [hset,b1 hj,b1 hk,h1,h2,b1 h,b1 (Ne.symm h),b2 (show ¬ k <= j by omega),Nat.ble_eq_true_of_le (show j <= k by omega)]
      ·simp [hset,b1 hj,b1 hk,h1,h2,b1 h,b1 (Ne.symm h),b2 (show ¬ j <= k by omega),Nat.ble_eq_true_of_le (show k <= j by omega)]
     ·simp only [Bool.not_eq_true] at h2
      have h3:¬ k <= j:=by
       intro h4
       have h5:=Nat.le_of_ble_eq_true h1
       rw [Nat.ble_eq_true_of_le (by omega)] at h2; cases h2
      simp [hset,b1 hj,b1 hk,h1,h2,b1 h,b2 h3]
    ·simp only [Bool.not_eq_true] at h1
     by_cases h2:Nat.ble k s = true
     ·have h3:¬ j <= k:=by
       intro h4
       have h5:=Nat.le_of_ble_eq_true h2
       rw [Nat.ble_eq_true_of_le (by omega)] at h1; cases h1
      simp [hset,b1 hj,b1 hk,h1,h2,b1 (Ne.symm h),b2 h3]
     ·simp only [Bool.not_eq_true] at h2
      simp [hset,b1 hj,b1 hk,h1,h2,ih]
theorem a6v {o:Oper} {t:Nat} (ho:o.op = .alloc t) {v:V} {H':Hp} (h:opV env orc ops o fr H = some (v,H')) :
  (H' = H /\ ∀ K,opV env orc ops o fr K = some (v,K)) ∨ ∃ x,hget (newName o) H = none /\ H' = hset (newName o) x H /\ ∀ K,hget (newName o) K = none -> opV env orc ops o fr K = some (v,hset (newName o) x K):=by
 have hp:F6 o.op = false:=by rw [ho]; rfl
 simp only [opV,D5,hp] at h ⊢
 cases hw:o6 ops o fr with
 | none=>rw [hw] at h; cases h
 | some w =>
  rw [hw] at h
  cases w with
  | false=>simp only [Option.some.injEq,Prod.mk.injEq] at h; obtain ⟨rfl,rfl⟩:=h; exact .inl ⟨rfl,fun _=>rfl⟩
  | true =>
   have he:∀ K,H8 env orc fr K o = match G5 t env.T,hget (newName o) K with | some y,none=>some (.val (.ptr (newName o) 0) (hset (newName o) (.row y.zero) K)) | _,_=>none:=by
    intro K
    unfold H8
    rw [ho]
    simp only []
    cases G5 t env.T <;> cases hget (newName o) K <;> rfl
   simp only [he] at h ⊢
   cases ht:G5 t env.T with
   | none=>rw [ht] at h; cases h
   | some y =>
    rw [ht] at h
    cases hg:hget (newName o) H with
    | some z=>rw [hg] at h; cases h
    | none =>
     rw [hg] at h
     simp only [Option.some.injEq,Prod.mk.injEq] at h
     obtain ⟨rfl,rfl⟩:=h
     refine .inr ⟨_,rfl,rfl,fun K hK=>?_⟩
     rw [hK]
theorem a4L {o:Oper} (h:U9 o = true):∃ t,o.op = .alloc t:=by
 unfold U9 at h
 split at h
 ·rename_i t he; exact ⟨t,he⟩
 ·cases h
theorem swap_ok {b:Bool} {x y:Oper} {l:List Oper} {f1:Fr} {H1:Hp} (hc:a9m env ops b x y = true) (hx:b = true -> isLd x = true -> HFree env orc ops x fr) (hy:b = true -> isLd y = true -> HFree env orc ops y fr)
  (h:p8 env orc ops (x :: y :: l) fr H = some (.normal,f1,H1)) :
  ∃ f2,p8 env orc ops (y :: x :: l) fr H = some (.normal,f2,H1) /\ a1Y f1 f2:=by
 simp only [a9m,Bool.and_eq_true] at hc
 obtain ⟨ha,hc⟩:=hc
 obtain ⟨a1,a2,a3⟩:=Oper.apart_spec ha
 obtain ⟨vx,Hx,h1,h2⟩:=J4.1 h
 obtain ⟨vy,Hy,h3,h4⟩:=J4.1 h2
 have e1:opV env orc ops y (K8 x.dst vx fr) Hx = opV env orc ops y fr Hx:=a6w fun t ht=>by
  rw [U5,if_neg]; exact fun hd=>a1 t hd ht
 have e2:∀ K,opV env orc ops x (K8 y.dst vy fr) K = opV env orc ops x fr K:=fun K=>a6w fun t ht=>by
  rw [U5,if_neg]; exact fun hd=>a3 t hd ht
 rw [e1] at h3
 have e3:a1Y (K8 y.dst vy (K8 x.dst vx fr)) (K8 x.dst vx (K8 y.dst vy fr)):=fun t=>by
  simp only [U5]
  by_cases hx:x.dst = some t
  ·rw [if_pos hx,if_neg (a2 t hx),if_pos hx]
  ·rw [if_neg hx]
   by_cases hy:y.dst = some t
   ·rw [if_pos hy,if_neg hx]
   ·rw [if_neg hy,if_neg hx]
 have fin:∀ K,opV env orc ops y fr H = some (vy,K) -> opV env orc ops x fr K = some (vx,Hy) -> ∃ f2,p8 env orc ops (y :: x :: l) fr H = some (.normal,f2,H1) /\ a1Y f1 f2:=by
  intro K k1 k2
  obtain ⟨f2,g1,g2⟩:=a4O e3 h4
  exact ⟨f2,J4.2 ⟨vy,K,k1,J4.2 ⟨vx,Hy,(e2 K).trans k2,g1⟩⟩,g2⟩
 simp only [Bool.or_eq_true,Bool.and_eq_true] at hc
 rcases hc with ((hc | hc) | ⟨hc,hc'⟩) | ⟨hb,(hc | hc) | ⟨hc,hc'⟩⟩
 ·obtain ⟨rfl,g⟩:=a8p hc h1
  exact fin Hy h3 (g Hy)
 ·obtain ⟨rfl,g⟩:=a8p hc h3
  exact fin H (g H) h1
 ·have:=a8o hc h1
  subst this
  have:=a8o hc' h3
  subst this
  exact fin _ h3 h1
 ·obtain ⟨rfl,g⟩:=hx hb hc _ _ _ h1
  exact fin Hy h3 (g Hy)
 ·obtain ⟨rfl,g⟩:=hy hb hc _ _ _ h3
  exact fin H (g H) h1
 ·obtain ⟨t1,ho1⟩:=a4L hc
  obtain ⟨t2,ho2⟩:=a4L hc'
  rcases a6v ho1 h1 with ⟨rfl,g1⟩ | ⟨o1,g1,rfl,g2⟩
  ·exact fin Hy h3 (g1 Hy)
  ·rcases a6v ho2 h3 with ⟨rfl,g3⟩ | ⟨o2,g3,rfl,g4⟩
   ·exact fin H (g3 H) h1
   ·rw [l6] at g3
    split at g3
    ·cases g3
    ·rename_i hne
     refine fin _ (g4 H g3) ?_
     rw [a2z hne]
     exact g2 _ (by rw [l6,if_neg (Ne.symm hne)]; exact g1)
def Z5 (f1:Fr):List Oper -> Prop
 | []=>True
 | o :: r=>(∀ t,W9 o = some t -> a1K (look t f1) = true /\ ∀ z ∈ o :: r,z.dst ≠ some t) /\ Z5 f1 r
theorem Z5.sub {f1:Fr} {l l':List Oper} (h:List.Sublist l' l):Z5 f1 l -> Z5 f1 l':=by
  induction h with
  | slnil=>exact fun h=>h
  | cons a _ ih=>exact fun h=>ih h.2
  | cons_cons a hs ih=>exact fun h=>⟨fun t ht=>⟨(h.1 t ht).1,fun z hz=>(h.1 t ht).2 z (by
      rcases List.mem_cons.1 hz with rfl | hz
      · exact List.mem_cons_self ..
      · exact List.mem_cons_of_mem _ (hs.subset hz))⟩,ih h.2⟩
theorem Z5.congr {f1 f2:Fr} (e:a1Y f1 f2):∀ {l:List Oper},Z5 f1 l -> Z5 f2 l
 | [],_=>trivial
 | _ :: _,h=>⟨fun t ht=>⟨by rw [<- e t]; exact (h.1 t ht).1,(h.1 t ht).2⟩,Z5.congr e h.2⟩
theorem Z5.mem {f1:Fr} {y:Oper} {B:List Oper}:∀ {A:List Oper},Z5 f1 (A ++ y :: B) -> Z5 f1 (y :: B)
 | [],h=>h
 | _ :: _,h=>Z5.mem h.2
theorem a3a:∀ {l:List Oper} {fr f1:Fr} {H H1:Hp} {t:Nat},p8 env orc ops l fr H = some (.normal,f1,H1) -> (∀ z ∈ l,z.dst ≠ some t) -> look t f1 = look t fr
 | [],fr,f1,H,H1,t,h,_=>by simp only [p8,Option.some.injEq,Prod.mk.injEq,true_and] at h; rw [h.1]
 | o :: l,fr,f1,H,H1,t,h,hz=>by
  obtain ⟨v,H',h1,h2⟩:=J4.1 h
  rw [a3a h2 (fun z hm=>hz z (List.mem_cons_of_mem _ hm)),U5,if_neg (hz o (List.mem_cons_self ..))]
theorem b09 {o:Oper} {t:Nat} (h:W9 o = some t):t ∈ o.looksAt ops:=by
 unfold W9 at h
 split at h
 ·rename_i ty t' he
  cases h
  refine List.mem_append_left _ (List.mem_filterMap.2 ⟨.tmp t,?_,rfl⟩)
  rw [he]; simp [Op.operands]
 ·cases h
theorem a6q {o:Oper} (h:isLd o = true):∃ t,W9 o = some t:=by
 unfold isLd at h
 split at h
 ·rename_i t he; exact ⟨t,he⟩
 ·cases h
theorem a9g {b:Bool} {y:Oper}:∀ {A B:List Oper} {fr f1:Fr} {H H1:Hp},(∀ x ∈ A,a9m env ops b x y = true) -> (b = true -> Z5 f1 (A ++ y :: B)) -> p8 env orc ops (A ++ y :: B) fr H = some (.normal,f1,H1) ->
  ∃ f2,p8 env orc ops (y :: (A ++ B)) fr H = some (.normal,f2,H1) /\ a1Y f1 f2
 | [],B,fr,f1,H,H1,_,_,h=>⟨f1,h,.refl _⟩
 | x :: A,B,fr,f1,H,H1,hc,hS,h=>by
  obtain ⟨v,H',h1,h2⟩:=J4.1 h
  obtain ⟨f2,h3,h4⟩:=a9g (fun z hz=>hc z (List.mem_cons_of_mem _ hz)) (fun hb=>(hS hb).2) h2
  have hev:p8 env orc ops (x :: y :: (A ++ B)) fr H = some (.normal,f2,H1):=J4.2 ⟨v,H',h1,h3⟩
  have hmem:∀ z ∈ x :: y :: (A ++ B),z ∈ x :: (A ++ y :: B):=by
   intro z hz
   simp only [List.mem_cons,List.mem_append] at hz ⊢
   rcases hz with rfl | rfl | hz | hz
   ·exact .inl rfl
   ·exact .inr (.inr (.inl rfl))
   ·exact .inr (.inl hz)
   ·exact .inr (.inr (.inr hz))
  obtain ⟨f3,h5,h6⟩:=swap_ok (hc x (List.mem_cons_self ..)) (fun hb hl=>by
   obtain ⟨t,ht⟩:=a6q hl
   obtain ⟨k1,k2⟩:=(hS hb).1 t ht
   refine a9E ht ?_
   rw [<- a3a hev (fun z hz=>k2 z (hmem z hz)),<- h4 t]
   exact k1) (fun hb hl=>by
   obtain ⟨t,ht⟩:=a6q hl
   have hy:Z5 f1 (y :: B):=Z5.mem (A:=x :: A) (hS hb)
   obtain ⟨k1,k2⟩:=hy.1 t ht
   refine a9E ht ?_
   rw [<- a3a hev (fun z hz=>?_),<- h4 t]
   ·exact k1
   ·have hno:∀ u ∈ x :: A,u.dst ≠ some t:=by
     intro u hu hd
     have:=hc u hu
     simp only [a9m,Bool.and_eq_true] at this
     exact (Oper.apart_spec this.1).1 t hd (b09 ht)
    simp only [List.mem_cons,List.mem_append] at hz
    rcases hz with rfl | rfl | hz | hz
    ·exact hno _ (List.mem_cons_self ..)
    ·exact k2 _ (List.mem_cons_self ..)
    ·exact hno z (List.mem_cons_of_mem _ hz)
    ·exact k2 z (List.mem_cons_of_mem _ hz)) hev
  exact ⟨f3,h5,h4.trans h6⟩
theorem b28 {f1:Fr}:∀ {l:List Oper},safeB l = true -> ((U1 l).all fun t=>a1K (look t f1)) = true -> Z5 f1 l
 | [],_,_=>trivial
 | o :: r,h1,h2=>by
  simp only [safeB,Bool.and_eq_true] at h1
  refine ⟨fun t ht=>?_,b28 h1.2 ?_⟩
  ·rw [ht] at h1
   simp only [U1,ht,List.all_cons,Bool.and_eq_true] at h2
   refine ⟨h2.1,fun z hz hd=>?_⟩
   have:=List.all_eq_true.1 h1.1 z hz
   rw [hd] at this
   simp at this
  ·simp only [U1] at h2
   split at h2
   ·simp only [List.all_cons,Bool.and_eq_true] at h2; exact h2.2
   ·exact h2
end
end Go.Vm
namespace Go.Vm
section
variable {env:Env} {orc:Orc} {ops:Array Oper} {L sl:List Nat} {fr fr':Fr} {H H':Hp}
def Sub (H H':Hp):Prop:=∀ k o,hget k H = some o -> hget k H' = some o
theorem Sub.refl (H:Hp):Sub H H:=fun _ _ h=>h
theorem Sub.trans {A B C:Hp} (h:Sub A B) (g:Sub B C):Sub A C:=fun k o e=>g k o (h k o e)
theorem a5Y {k:Nat} {o:Obj} (h:hget k H = none):Sub H (hset k o H):=fun j x e=>by
 rw [l6,if_neg]; · exact e
 ·rintro rfl; rw [h] at e; cases e
theorem a6x:∀ (n:Nat) (todo acc:List Nat) (k:Nat),k ∈ acc -> k ∈ reach H n todo acc
 | 0,_,_,_,h=>by simpa [reach] using h
 | n + 1,[],_,_,h=>by simpa [reach] using h
 | n + 1,a :: todo,acc,k,h=>by
  simp only [reach]
  cases has a acc with
  | true=>exact a6x n todo acc k h
  | false=>exact a6x n _ _ k (List.mem_append_left _ h)
theorem a2M (hs:Sub H H'):∀ (n:Nat) (todo acc:List Nat),(∀ k ∈ reach H n todo acc,hget k H ≠ none) -> reach H' n todo acc = reach H n todo acc
 | 0,_,_,_=>by simp [reach]
 | n + 1,[],_,_=>by simp [reach]
 | n + 1,a :: todo,acc,h=>by
  simp only [reach] at h ⊢
  cases hb:has a acc with
  | true=>rw [hb] at h; exact a2M hs n todo acc h
  | false =>
   rw [hb] at h
   simp only at h ⊢
   have ha:=h a (a6x n _ _ a (List.mem_append_right _ (List.mem_singleton.2 rfl)))
   cases hg:hget a H with
   | none=>exact absurd hg ha
   | some o =>
    rw [hg] at h
    rw [hs a o hg]
    exact a2M hs n _ _ h
theorem a4x (hs:Sub H H') {m:Nat -> Option Nat}:∀ {ns:List Nat} {i:Nat} {r:Hp},a0F H m ns i = some r -> a0F H' m ns i = some r /\ ∀ k ∈ ns,hget k H ≠ none
 | [],i,r,h=>⟨h,fun k hk=>by cases hk⟩
 | a :: ns,i,r,h=>by
  simp only [a0F] at h ⊢
  cases hg:hget a H with
  | none=>rw [hg] at h; cases h
  | some o =>
   rw [hg] at h
   rw [hs a o hg]
   simp only at h ⊢
   cases ho:a5n m o with
   | none=>rw [ho] at h; cases h
   | some o' =>
    rw [ho] at h
    cases hp:a0F H m ns (i + 1) with
    | none=>rw [hp] at h; cases h
    | some l =>
     rw [hp] at h
     obtain ⟨h1,h2⟩:=a4x hs hp
     rw [h1]
     refine ⟨h,fun k hk=>?_⟩
     rcases List.mem_cons.1 hk with rfl | hk
     ·rw [hg]; simp
     ·exact h2 k hk
theorem b1U (hs:Sub H H') {nr:Nat} {v:V} {r:V × Hp} (h:finish nr v H = some r):finish nr v H' = some r:=by
 unfold finish at h ⊢
 simp only [a9q,b0W,a5z] at h ⊢
 cases hp:a0F H (idx · (reach H 99 (List.range nr ++ O5 dep v) [])) (reach H 99 (List.range nr ++ O5 dep v) []) 0 with
 | none=>rw [hp] at h; revert h; cases P6 (idx · (reach H 99 (List.range nr ++ O5 dep v) [])) dep v <;> (intro h; cases h)
 | some H2 =>
  obtain ⟨h1,h2⟩:=a4x hs hp
  rw [a2M hs _ _ _ h2,h1,<- hp]
  exact h
theorem a5g {m:Nat -> Option Nat} {k:Nat}:∀ {M H H4:Hp},R4 m M H = some H4 -> hget k H4 = none -> hget k H = none
 | [],H,H4,h,hk=>by simp only [R4,Option.some.injEq] at h; rw [h]; exact hk
 | (i,x) :: r,H,H4,h,hk=>by
  simp only [R4] at h
  split at h
  ·rename_i j x' _ _
   have:=a5g h hk
   rw [l6] at this
   split at this
   ·cases this
   ·exact this
  ·cases h
theorem a8f {m:Nat -> Option Nat} {k:Nat} {o:Obj}:∀ {M H H4:Hp},R4 m M H = some H4 -> hget k H4 = none -> R4 m M (hset k o H) = some (hset k o H4)
 | [],H,H4,h,hk=>by simp only [R4,Option.some.injEq] at h ⊢; rw [h]
 | (i,x) :: r,H,H4,h,hk=>by
  simp only [R4] at h ⊢
  split at h
  ·rename_i j x' _ _
   have:=a5g h hk
   have hne:j ≠ k:=by
    rintro rfl
    rw [l6,if_pos rfl] at this; cases this
   rw [a2z hne]
   exact a8f h hk
  ·cases h
theorem a8g {m:Nat -> Option Nat} {k:Nat}:∀ {M H H4:Hp},R4 m M H = some H4 -> (∀ i o,(i,o) ∈ M -> m i ≠ some k) -> hget k H4 = hget k H
 | [],H,H4,h,_=>by simp only [R4,Option.some.injEq] at h; rw [h]
 | (i,x) :: r,H,H4,h,hk=>by
  simp only [R4] at h
  split at h
  ·rename_i j x' hj _
   rw [a8g h (fun i' o' hm=>hk i' o' (List.mem_cons_of_mem _ hm)),l6,if_neg]
   rintro rfl
   exact hk i x (List.mem_cons_self ..) hj
  ·cases h
theorem b07:∀ {M:Hp} {i:Nat},keysB i M = true -> ∀ j o,(j,o) ∈ M -> i <= j /\ j < i + M.length
 | [],_,_,_,_,hm=>by cases hm
 | (a,x) :: r,i,h,j,o,hm=>by
  simp only [keysB,Bool.and_eq_true] at h
  have ha:=Nat.eq_of_beq_eq_true h.1
  rcases List.mem_cons.1 hm with he | hm
  ·cases he; simp only [List.length_cons]; omega
  ·have:=b07 h.2 j o hm; simp only [List.length_cons]; omega
theorem a7Q {k':Nat} {o:Obj}:∀ {n k:Nat},a3c H k n = true -> (∀ i,i < n -> k + i ≠ k') -> a3c (hset k' o H) k n = true
 | 0,_,_,_=>rfl
 | n + 1,k,h,hn=>by
  simp only [a3c,Bool.and_eq_true] at h ⊢
  refine ⟨?_,a7Q h.2 (fun i hi=>hn i (by omega))⟩
  rw [l6,if_neg (hn n (Nat.lt_succ_self n))]
  exact h.1
def OpR.heap:OpR -> Hp
 | .val _ H=>H
 | .pan _ H=>H
def OpR.add (k:Nat) (o:Obj):OpR -> OpR
 | .val v H=>.val v (hset k o H)
 | .pan v H=>.pan v (hset k o H)
theorem a2o {g:Nat} {args:List V} {r:OpR} (h:O3 orc g args H = some r):r.heap = H /\ ∀ K,∃ v,r = .val v H /\ O3 orc g args K = some (.val v K):=by
 unfold O3 at h ⊢
 split at h
 ·cases h
 ·split at h
  ·rename_i ho
   split at h
   ·rename_i hv
    cases h
    exact ⟨rfl,fun K=>⟨_,rfl,rfl⟩⟩
   ·cases h
  ·cases h
def a9h (env:Env) (g:Nat) (G7:List V) (n:Nat) (H2:Hp):List V × Hp:=a3T env.full (V8 (env.argTags g) G7 n).1 ((F3 H2 (V8 (env.argTags g) G7 n).2).1 ++ a4J n ((F3 H2 (V8 (env.argTags g) G7 n).2).2 - n))
theorem a1v {k g:Nat} {args:List V} {r:OpR} (hq:env.quiet g = false) (h:H9 env orc k g args H = some r) :
    ∃ ns G7 H2 H3 v v4,reach H 99 ((Q0 (env.argTags g) (env.a1m g) args).flatMap (O5 dep)) [] = ns /\ N7 (P6 (idx · ns) dep) (Q0 (env.argTags g) (env.a1m g) args) = some G7 /\ a0F H (idx · ns) ns 0 = some H2 /\
      P6 (C9 ns k) dep v = some v4 /\ R4 (C9 ns k) H3 H = some r.heap /\ a00 H H3 k ns.length = true /\
      ((orc (.call g (a9h env g G7 ns.length H2).1) (a9h env g G7 ns.length H2).2 = some (.ret v H3) /\ r = .val v4 r.heap) ∨
       (orc (.call g (a9h env g G7 ns.length H2).1) (a9h env g G7 ns.length H2).2 = some (.pan v H3) /\ r = .pan v4 r.heap)):=by
  unfold H9 at h
  rw [hq] at h
  simp only at h
  generalize hns:reach H 99 ((Q0 (env.argTags g) (env.a1m g) args).flatMap (O5 dep)) [] = ns at h
  split at h
  · rename_i G7 H2 h1 h2
    split at h
    · rename_i v H3 ho
      split at h
      · rename_i v4 H4 hv hm
        split at h
        · rename_i hf
          cases h
          exact ⟨ns,G7,H2,H3,v,v4,rfl,h1,h2,hv,hm,hf,.inl ⟨ho,rfl⟩⟩
        · cases h
      · cases h
    · rename_i v H3 ho
      split at h
      · rename_i v4 H4 hv hm
        split at h
        · rename_i hf
          cases h
          exact ⟨ns,G7,H2,H3,v,v4,rfl,h1,h2,hv,hm,hf,.inr ⟨ho,rfl⟩⟩
        · cases h
      · cases h
    · cases h
  · cases h
theorem a6H {k k' g:Nat} {args:List V} {r:OpR} (h:H9 env orc k g args H = some r) (hk:hget k' r.heap = none):hget k' H = none:=by
 cases hq:env.quiet g with
 | true =>
  unfold H9 at h
  rw [hq] at h
  rw [(a2o h).1] at hk; exact hk
 | false =>
  obtain ⟨ns,a2,H2,H3,v,v4,_,_,_,_,hm,_⟩:=a1v hq h
  exact a5g hm hk
theorem a6G {k k' g:Nat} {o:Obj} {args:List V} {r:OpR} (h:H9 env orc k g args H = some r) (hk:hget k' r.heap = none) (hne:∀ i,i < 64 -> k + i ≠ k') :
  H9 env orc k g args (hset k' o H) = some (r.add k' o):=by
 cases hq:env.quiet g with
 | true =>
  unfold H9 at h ⊢
  rw [hq] at h ⊢
  obtain ⟨v,rfl,h2⟩:=(a2o h).2 (hset k' o H)
  exact h2
 | false =>
  have hk0:=a6H h hk
  obtain ⟨ns,a2,H2,H3,v,v4,h1,h2,h3,h4,hm,hf,ho⟩:=a1v hq h
  have hs:Sub H (hset k' o H):=a5Y hk0
  obtain ⟨p1,p2⟩:=a4x hs h3
  have hr:=a2M hs 99 ((Q0 (env.argTags g) (env.a1m g) args).flatMap (O5 dep)) [] (by rw [h1]; exact p2)
  have hf2:a00 (hset k' o H) H3 k ns.length = true:=by
   simp only [a00,Bool.and_eq_true] at hf ⊢
   refine ⟨hf.1,a7Q hf.2 fun i hi=>hne i ?_⟩
   have:=Nat.le_of_ble_eq_true hf.1.1
   omega
  have hm2:=a8f (o:=o) hm hk
  unfold H9
  rw [hq]
  simp only [hr,h1,h2,p1]
  rcases ho with ⟨ho,hre⟩ | ⟨ho,hre⟩
  ·simp only [a9h] at ho
   simp only [ho,h4,hm2,hf2]
   rw [hre]; rfl
  ·simp only [a9h] at ho
   simp only [ho,h4,hm2,hf2]
   rw [hre]; rfl
theorem b3l {k k' g:Nat} {args:List V} {r:OpR} (h:P7 env orc k g args H = some r) (hk:hget k' r.heap = none):hget k' H = none:=by
 rcases a0Y h with ⟨h1,_⟩ | ⟨_,_,v,H4,h1,rfl,h3⟩
 ·exact a6H h1 hk
 ·exact hk
theorem b3k {k k' g:Nat} {o:Obj} {args:List V} {r:OpR} (h:P7 env orc k g args H = some r) (hk:hget k' r.heap = none) (hne:∀ i,i < 64 -> k + i ≠ k') :
  P7 env orc k g args (hset k' o H) = some (r.add k' o):=by
 rcases a0Y h with ⟨h1,h2⟩ | ⟨hq,hl,v,H4,h1,rfl,h3⟩
 ·have h4:=a6G (o:=o) h1 hk hne
  unfold P7
  rcases h2 with h2 | h2
  ·rw [h2]
   simp only
   unfold H9 at h4
   rw [h2] at h4; exact h4
  ·cases hq:env.quiet g with
   | true =>
    simp only
    unfold H9 at h4
    rw [hq] at h4; exact h4
   | false=>simp only [h2]; exact h4
 ·have h4:=a6G (o:=o) h1 (k':=k') (by show hget k' H4 = none; rw [h3]; exact hk) hne
  unfold P7
  simp only [hq,hl,h4]
  have h5:a8C (hset k' o H4) (hset k' o H) = true:=b1o fun j=>by rw [l6,l6,h3]
  simp only [OpR.add,b1f,h5]
theorem a4q {k:Nat}:∀ {l:List Nat},has k l = true ↔ k ∈ l
 | []=>by simp [has]
 | a :: r=>by
  simp only [has,List.mem_cons]
  cases hb:Nat.beq a k with
  | true=>have:=Nat.eq_of_beq_eq_true hb; simp [this]
  | false =>
   have hne:k ≠ a:=by rintro rfl; simp at hb
   simp only [a4q (l:=r)]
   exact ⟨.inr,fun h=>h.resolve_left hne⟩
theorem b0g {k j g:Nat} {args:List V} {r:OpR} (h:H9 env orc k g args H = some r) (hj:hget j H ≠ none)
  (hn:env.quiet g = false -> has j (reach H 99 ((Q0 (env.argTags g) (env.a1m g) args).flatMap (O5 dep)) []) = false):hget j r.heap = hget j H:=by
 cases hq:env.quiet g with
 | true =>
  unfold H9 at h
  rw [hq] at h
  rw [(a2o h).1]
 | false =>
  obtain ⟨ns,a2,H2,H3,v,v4,h1,h2,h3,h4,hm,hf,_⟩:=a1v hq h
  have hn:=hn hq
  rw [h1] at hn
  simp only [a00,Bool.and_eq_true] at hf
  refine a8g hm fun i o hio hb=>?_
  have hlt:=b07 hf.1.2 i o hio
  unfold C9 at hb
  split at hb
  ·rename_i j' hj'
   cases hb
   have:j ∈ ns:=List.mem_of_getElem? hj'
   rw [<- a4q,hn] at this; cases this
  ·rename_i hno
   cases hb
   have hge:ns.length <= i:=by
    rcases Nat.lt_or_ge i ns.length with h5 | h5
    ·rw [List.getElem?_eq_getElem h5] at hno; cases hno
    ·exact h5
   exact hj (a6n hf.2 (i - ns.length) (by omega))
theorem b1K {k j g:Nat} {args:List V} {r:OpR} (h:P7 env orc k g args H = some r) (hj:hget j H ≠ none)
  (hn:env.quiet g = false -> has j (reach H 99 ((Q0 (env.argTags g) (env.a1m g) args).flatMap (O5 dep)) []) = false):hget j r.heap = hget j H:=by
 rcases a0Y h with ⟨h1,_⟩ | ⟨_,_,v,H4,h1,rfl,h3⟩
 ·exact b0g h1 hj hn
 ·rfl
theorem b3m {k g:Nat} {args:List V} {r:OpR} (h:P7 env orc k g args H = some r):∃ r0,H9 env orc k g args H = some r0:=by
 rcases a0Y h with ⟨h1,_⟩ | ⟨_,_,v,H4,h1,rfl,h3⟩
 ·exact ⟨_,h1⟩
 ·exact ⟨_,h1⟩
end
end Go.Vm
namespace Go.Vm
section
variable {env:Env} {orc:Orc} {ops:Array Oper} {L sl:List Nat} {fr fr':Fr} {H H':Hp}
def O0 (env:Env) (orc:Orc) (L sl:List Nat) (ops:Array Oper) (o:Oper) (fr:Fr) (H:Hp):Option (V × Hp) :=
 match o6 ops o fr with
 | none=>none
 | some false=>some (.tuple [],H)
 | some true=>match R9 env L sl fr H o with
  | false=>none
  | true=>match D5 env orc fr H o with
   | some (.val v H)=>some (v,H)
   | _=>none
def a4K (env:Env) (orc:Orc) (L sl:List Nat) (ops:Array Oper) (o:Oper) (fr:Fr) (H:Hp) (v:V) (H':Hp):Prop :=
 o6 ops o fr = some true /\ R9 env L sl fr H o = true /\ D5 env orc fr H o = some (.pan v H')
theorem H7 {o:Oper} {l:List Oper} {r:Res}:u6 env orc L sl ops (o :: l) fr H = some r ↔
  (∃ v H',O0 env orc L sl ops o fr H = some (v,H') /\ u6 env orc L sl ops l (K8 o.dst v fr) H' = some r) ∨ ∃ v H',a4K env orc L sl ops o fr H v H' /\ r = (.panic v,fr,H'):=by
 simp only [u6,O0,a4K]
 cases o6 ops o fr with
 | none=>simp
 | some b =>
  cases b with
  | false=>simp; exact ⟨fun h=>⟨_,_,⟨rfl,rfl⟩,h⟩,fun ⟨_,_,⟨h1,h2⟩,h⟩=>by subst h1 h2; exact h⟩
  | true =>
   cases R9 env L sl fr H o with
   | false=>simp
   | true =>
    simp only [true_and]
    cases D5 env orc fr H o with
    | none=>simp
    | some x =>
     cases x with
     | val v H1=>simp; exact ⟨fun h=>⟨_,_,⟨rfl,rfl⟩,h⟩,fun ⟨_,_,⟨h1,h2⟩,h⟩=>by subst h1 h2; exact h⟩
     | pan v H1=>simp; exact ⟨fun h=>⟨_,_,⟨rfl,rfl⟩,h.symm⟩,fun ⟨_,_,⟨h1,h2⟩,h3⟩=>by rw [h1,h2,h3]⟩
theorem a1e:∀ {l:List Oper} {fr:Fr} {H:Hp} {r:Res},u6 env orc L sl ops l fr H = some r -> p8 env orc ops l fr H = some r
 | [],fr,H,r,h=>h
 | o :: l,fr,H,r,h=>by
  simp only [u6,p8] at h ⊢
  cases hw:o6 ops o fr with
  | none=>rw [hw] at h; cases h
  | some b =>
   rw [hw] at h
   cases b with
   | false=>exact a1e h
   | true =>
    simp only at h ⊢
    cases hp:R9 env L sl fr H o with
    | false=>rw [hp] at h; cases h
    | true =>
     rw [hp] at h
     simp only at h
     cases ho:D5 env orc fr H o with
     | none=>rw [ho] at h; cases h
     | some x =>
      rw [ho] at h
      cases x with
      | val v H1=>exact a1e h
      | pan v H1=>exact h
theorem Z8 {o:Oper} {v:V} {H':Hp}:O0 env orc L sl ops o fr H = some (v,H') ↔ opV env orc ops o fr H = some (v,H') /\ (o6 ops o fr = some true -> R9 env L sl fr H o = true):=by
 simp only [O0,opV]
 cases o6 ops o fr with
 | none=>simp
 | some b =>
  cases b with
  | false=>simp
  | true =>
   cases R9 env L sl fr H o with
   | false=>simp
   | true=>exact ⟨fun h=>⟨h,fun _=>rfl⟩,fun h=>h.1⟩
theorem b2Z {o:Oper} {x:Operand} (h:∀ t ∈ o.looksAt ops,look t fr = look t fr') (hx:x ∈ o.op.operands.toList):ev fr x = ev fr' x:=by
 cases x with
 | tmp t=>simp only [ev]; rw [h t (List.mem_append_left _ (List.mem_filterMap.2 ⟨.tmp t,hx,rfl⟩))]
 | _=>rfl
theorem a6a {o:Oper} (h:∀ t ∈ o.looksAt ops,look t fr = look t fr'):o6 ops o fr = o6 ops o fr':=by
 unfold o6
 cases hg:o.guard with
 | none=>rfl
 | some p =>
  obtain ⟨j,want⟩:=p
  simp only [a4m]
  cases hd:(ops[j]?).bind (·.dst) with
  | none=>rfl
  | some t=>simp only; rw [h t (by simp [Oper.looksAt,hg,hd])]
theorem a5I {o:Oper} (h:∀ t ∈ o.looksAt ops,look t fr = look t fr'):D5 env orc fr H o = D5 env orc fr' H o:=by
 have hop:∀ x ∈ o.op.operands.toList,ev fr x = ev fr' x:=fun x hx=>b2Z h hx
 simp only [D5,a7e hop,a6U hop]
theorem b1w {o:Oper} (h:∀ t ∈ o.looksAt ops,look t fr = look t fr'):touch env fr H o = touch env fr' H o:=by
 have hop:∀ x ∈ o.op.operands.toList,ev fr x = ev fr' x:=fun x hx=>b2Z h hx
 unfold touch
 split
 ·rename_i f args at_ heq
  rw [heq] at hop
  have h1:ev fr f = ev fr' f:=hop f (by simp [Op.operands,Call.operands])
  have h2:evL fr args.toList = evL fr' args.toList:=a0C fun x hx=>hop x (by simp only [Op.operands,Call.operands]; simp only [Array.toList_append,List.mem_append]; exact .inr hx)
  rw [h1,h2]
 ·rfl
theorem a6W {o:Oper} (h:∀ t ∈ o.looksAt ops,look t fr = look t fr'):R9 env L sl fr H o = R9 env L sl fr' H o:=by
 unfold R9
 rw [b1w h]
 cases hs:a2Q o with
 | some t =>
  simp only
  have:t ∈ o.looksAt ops:=by
   unfold a2Q at hs
   split at hs
   ·rename_i ty t' x he
    cases hs
    refine List.mem_append_left _ (List.mem_filterMap.2 ⟨.tmp t,?_,rfl⟩)
    rw [he]; simp [Op.operands]
   ·cases hs
  rw [h t this]
 | none =>
  cases hl:W9 o with
  | none=>rfl
  | some t=>simp only; rw [h t (b09 hl)]
theorem a3k {o:Oper} (h:∀ t ∈ o.looksAt ops,look t fr = look t fr'):O0 env orc L sl ops o fr H = O0 env orc L sl ops o fr' H:=by
 simp only [O0,a6a h,a6W h,a5I h]
theorem a3K {o:Oper} {v:V} (h:∀ t ∈ o.looksAt ops,look t fr = look t fr') (hp:a4K env orc L sl ops o fr H v H'):a4K env orc L sl ops o fr' H v H':=by
 unfold a4K at hp ⊢
 rw [<- a6a h,<- a6W h,<- a5I h]
 exact hp
theorem a10:∀ {l:List Oper} {fr fr':Fr} {H:Hp} {ex:Ex} {f1:Fr} {H1:Hp},a1Y fr fr' -> u6 env orc L sl ops l fr H = some (ex,f1,H1) -> ∃ f2,u6 env orc L sl ops l fr' H = some (ex,f2,H1) /\ a1Y f1 f2
 | [],fr,fr',H,ex,f1,H1,e,h=>by
  simp only [u6,Option.some.injEq,Prod.mk.injEq] at h ⊢
  obtain ⟨rfl,rfl,rfl⟩:=h
  exact ⟨fr',⟨rfl,rfl,rfl⟩,e⟩
 | o :: r,fr,fr',H,ex,f1,H1,e,h=>by
  rcases H7.1 h with ⟨v,H',h1,h2⟩ | ⟨v,H',h1,h2⟩
  ·rw [a3k (fr':=fr') fun t _=>e t] at h1
   obtain ⟨f2,h3,h4⟩:=a10 (fr':=K8 o.dst v fr') (fun t=>by rw [U5,U5,e t]) h2
   exact ⟨f2,H7.2 (.inl ⟨v,H',h1,h3⟩),h4⟩
  ·simp only [Prod.mk.injEq] at h2
   obtain ⟨rfl,rfl,rfl⟩:=h2
   exact ⟨fr',H7.2 (.inr ⟨v,H1,a3K (fun t _=>e t) h1,rfl⟩),e⟩
def a9z (sl:List Nat) (o:Oper):Bool:=match W9 o with
 | some t=>has t sl
 | none=>false
def b04 (sl:List Nat) (o:Oper):Bool:=match a2Q o with
 | some t=>has (t + 1000000) sl
 | none=>false
def a0T (env:Env) (ops:Array Oper) (sl:List Nat) (x y:Oper):Bool:=x.apart ops y && ((F6 x.op || F6 y.op || (a1J env x.op && a1J env y.op)) ||
 ((a9z sl x && (a2l y || U9 y || a3W y || b04 sl y)) || ((a2l x && U9 y || U9 x && U9 y) && !Nat.beq (newName x) (newName y))))
theorem a6T (o:Oper):∃ a,newName o = 64 * a:=by
 unfold newName
 split
 ·exact ⟨_,rfl⟩
 ·exact ⟨1,rfl⟩
theorem a4a {x y:Oper} (h:Nat.beq (newName x) (newName y) = false):∀ i,i < 64 -> newName x + i ≠ newName y:=by
 intro i hi he
 obtain ⟨a,ha⟩:=a6T x
 obtain ⟨b,hb⟩:=a6T y
 rw [ha,hb] at he
 have:i = 0:=by omega
 subst this
 rw [ha,hb,show 64 * a = 64 * b from by omega] at h
 simp at h
theorem b2p {o:Oper} (h:F6 o.op = true):a2l o = false /\ U9 o = false /\ W9 o = none /\ a3W o = false /\ a2Q o = none:=by
 obtain ⟨dst,op,type,pos,after,guard⟩:=o
 refine ⟨?_,?_,?_,?_,?_⟩
 ·unfold a2l; simp only at h ⊢; split
  ·cases h
  ·rfl
 ·unfold U9; simp only at h ⊢; split
  ·cases h
  ·rfl
 ·unfold W9; simp only at h ⊢; split
  ·cases h
  ·rfl
 ·unfold a3W; simp only at h ⊢; split
  ·cases h
  ·rfl
 ·unfold a2Q; simp only at h ⊢; split
  ·cases h
  ·rfl
theorem b2o {o:Oper} (h:F6 o.op = true):R9 env L sl fr H o = true:=by
 obtain ⟨h1,h2,h3,h4,h5⟩:=b2p h
 simp [R9,h1,h2,h3,h4,h5]
theorem a2G {o:Oper} (hp:F6 o.op = true) {v:V} (h:O0 env orc L sl ops o fr H = some (v,H')):H' = H /\ ∀ K,O0 env orc L sl ops o fr K = some (v,K):=by
 obtain ⟨h1,_⟩:=Z8.1 h
 obtain ⟨rfl,g⟩:=a8p hp h1
 exact ⟨rfl,fun K=>Z8.2 ⟨g K,fun _=>b2o hp⟩⟩
theorem b1W {α:Type} {x:Option α}:isSome x = true ↔ x ≠ none:=by cases x <;> simp [isSome]
theorem a3M {o:Oper} (h:U9 o = true):a2l o = false /\ W9 o = none /\ F6 o.op = false:=by
 obtain ⟨t,ho⟩:=a4L h
 refine ⟨?_,?_,?_⟩
 ·unfold a2l; rw [ho]
 ·unfold W9; rw [ho]
 ·rw [ho]; rfl
theorem touch_al {o:Oper} (h:U9 o = true):touch env fr H o = []:=by
 obtain ⟨t,ho⟩:=a4L h
 unfold touch; rw [ho]
theorem a8v {o:Oper} (h:U9 o = true):R9 env L sl fr H o = L.all fun r=>isSome (hget r H):=by
 unfold R9
 rw [h,Bool.or_true,Bool.true_or]
 simp only [touch_al h,has,Bool.not_false,Bool.true_and]
theorem a1O {o:Oper} (ha:U9 o = true) {v:V} (h:O0 env orc L sl ops o fr H = some (v,H')) :
  (o6 ops o fr = some false /\ H' = H /\ ∀ K,O0 env orc L sl ops o fr K = some (v,K)) ∨
  ∃ x,(L.all fun r=>isSome (hget r H)) = true /\ hget (newName o) H = none /\ H' = hset (newName o) x H /\ ∀ K,hget (newName o) K = none -> (L.all fun r=>isSome (hget r K)) = true -> O0 env orc L sl ops o fr K = some (v,hset (newName o) x K):=by
 obtain ⟨t,ho⟩:=a4L ha
 obtain ⟨h1,h2⟩:=Z8.1 h
 cases hw:o6 ops o fr with
 | none=>simp only [O0,hw] at h; cases h
 | some b =>
  cases b with
  | false =>
   refine .inl ⟨rfl,?_,fun K=>?_⟩
   ·simp only [O0,hw,Option.some.injEq,Prod.mk.injEq] at h; exact h.2.symm
   ·simp only [O0,hw,Option.some.injEq,Prod.mk.injEq] at h ⊢; exact ⟨h.1,trivial⟩
  | true =>
   have h2:=h2 hw
   rw [a8v ha] at h2
   rcases a6v ho h1 with ⟨rfl,g⟩ | ⟨x,g1,rfl,g2⟩
   ·
    exfalso
    have hp:=(a3M ha).2.2
    simp only [opV,hw,D5,hp] at h1
    have he:H8 env orc fr H' o = match G5 t env.T,hget (newName o) H' with | some y,none=>some (.val (.ptr (newName o) 0) (hset (newName o) (.row y.zero) H')) | _,_=>none:=by
     unfold H8
     rw [ho]
     simp only []
     cases G5 t env.T <;> cases hget (newName o) H' <;> rfl
    rw [he] at h1
    cases ht:G5 t env.T with
    | none=>rw [ht] at h1; cases h1
    | some y =>
     rw [ht] at h1
     cases hg:hget (newName o) H' with
     | some z=>rw [hg] at h1; cases h1
     | none =>
      rw [hg] at h1
      simp only [Option.some.injEq,Prod.mk.injEq] at h1
      have:=congrArg (hget (newName o)) h1.2
      rw [l6,if_pos rfl,hg] at this
      cases this
   ·exact .inr ⟨x,h2,g1,rfl,fun K hK hL=>Z8.2 ⟨g2 K hK,fun _=>by rw [a8v ha]; exact hL⟩⟩
theorem cl_op {o:Oper} (h:a2l o = true):∃ f args at_,o.op = .call ⟨.value f,args,at_⟩:=by
 unfold a2l at h
 split at h
 ·rename_i f args at_ he; exact ⟨f,args,at_,he⟩
 ·cases h
theorem cl_kinds {o:Oper} (h:a2l o = true):U9 o = false /\ W9 o = none /\ F6 o.op = false:=by
 obtain ⟨f,args,at_,ho⟩:=cl_op h
 refine ⟨?_,?_,?_⟩
 ·unfold U9; rw [ho]
 ·unfold W9; rw [ho]
 ·rw [ho]; rfl
theorem b2L {o:Oper} (h:a2l o = true) {r:OpR} (hs:D5 env orc fr H o = some r) :
    ∃ g l,P7 env orc (newName o) g l H = some r /\ (∀ K,D5 env orc fr K o = P7 env orc (newName o) g l K) /\ ∀ K,touch env fr K o = match env.quiet g with | true=>[] | false=>reach K 99 ((Q0 (env.argTags g) (env.a1m g) l).flatMap (O5 dep)) []:=by
  obtain ⟨f,args,at_,ho⟩:=cl_op h
  have hp:=(cl_kinds h).2.2
  have he:∀ K,D5 env orc fr K o = match ev fr f,evL fr args.toList with
      | some (.func (.func g) first captured),some l=>P7 env orc (newName o) g (first ++ l ++ captured) K
      | _,_=>none:=by
    intro K
    simp only [D5,hp]
    unfold H8
    rw [ho]
    rfl
  rw [he] at hs
  split at hs
  · rename_i g first captured l h1 h2
    refine ⟨g,first ++ l ++ captured,hs,fun K=>?_,fun K=>?_⟩
    · rw [he,h1,h2]
    · unfold touch; rw [ho]; simp only [h1,h2]; rfl
  · cases hs
theorem a4h {o:Oper} (h:a2l o = true):R9 env L sl fr H o = L.all fun r=>!has r (touch env fr H o) && isSome (hget r H):=by
 unfold R9; rw [h,Bool.true_or,Bool.true_or]
theorem box_keep {o:Oper} (ho:a3W o = true) {v:V} (h:O0 env orc L sl ops o fr H = some (v,H')) {j:Nat} (hj:has j L = true):hget j H' = hget j H:=by
 obtain ⟨t,x,hop⟩:∃ t x,o.op = .box t x:=by
  unfold a3W at ho
  split at ho
  ·rename_i t x he; exact ⟨t,x,he⟩
  ·cases ho
 obtain ⟨h1,h2⟩:=Z8.1 h
 cases hw:o6 ops o fr with
 | none=>simp only [O0,hw] at h; cases h
 | some b =>
  cases b with
  | false=>simp only [O0,hw,Option.some.injEq,Prod.mk.injEq] at h; rw [h.2]
  | true =>
   have hp:=h2 hw
   unfold R9 at hp
   rw [ho,Bool.or_true] at hp
   have hp:=(List.all_eq_true.1 hp) j (a4q.1 hj)
   simp only [Bool.and_eq_true] at hp
   have hpu:F6 o.op = false:=by rw [hop]; rfl
   simp only [opV,hw,D5,hpu] at h1
   unfold H8 at h1
   rw [hop] at h1
   simp only at h1
   split at h1
   ·rename_i r he
    split at he
    ·rename_i y v' _ hg _
     split at he
     ·cases he
      simp only [Option.some.injEq,Prod.mk.injEq] at h1
      obtain ⟨rfl,rfl⟩:=h1
      rw [l6,if_neg]
      rintro rfl
      have:=hp.2
      rw [hg] at this; cases this
     ·cases he
    ·cases he
   ·cases h1
theorem b1z {T:List (Nat × Ty)} {t r off j:Nat} {v:V} {K:Hp} (h:a8U T t (.ptr r off) v H = some K) (hj:j ≠ r):hget j K = hget j H:=by
 unfold a8U at h
 split at h
 ·rename_i heq
  cases heq
  split at h
  ·split at h
   ·simp only [gd] at h
    split at h
    ·cases h; rw [l6,if_neg hj]
    ·cases h
   ·split at h
    ·simp only [gd] at h
     split at h
     ·cases h; rw [l6,if_neg hj]
     ·cases h
    ·cases h
   ·cases h
  ·cases h
 ·cases h
theorem b2x {o:Oper} (ho:b04 sl o = true) {v:V} (h:O0 env orc L sl ops o fr H = some (v,H')) {j:Nat} (hj:has j L = true):hget j H' = hget j H:=by
 unfold b04 at ho
 cases hs:a2Q o with
 | none=>rw [hs] at ho; cases ho
 | some t =>
  rw [hs] at ho
  simp only at ho
  obtain ⟨ty,x,hop⟩:∃ ty x,o.op = .store ty (.tmp t) x:=by
   unfold a2Q at hs
   split at hs
   ·rename_i ty t' x he; cases hs; exact ⟨ty,x,he⟩
   ·cases hs
  obtain ⟨h1,h2⟩:=Z8.1 h
  cases hw:o6 ops o fr with
  | none=>simp only [O0,hw] at h; cases h
  | some b =>
   cases b with
   | false=>simp only [O0,hw,Option.some.injEq,Prod.mk.injEq] at h; rw [h.2]
   | true =>
    have hp:=h2 hw
    have k1:a2l o = false:=by unfold a2l; rw [hop]
    have k2:U9 o = false:=by unfold U9; rw [hop]
    have k3:a3W o = false:=by unfold a3W; rw [hop]
    unfold R9 at hp
    rw [k1,k2,k3,hs] at hp
    simp only [Bool.or_false,ho] at hp
    have hpu:F6 o.op = false:=by rw [hop]; rfl
    simp only [opV,hw,D5,hpu] at h1
    unfold H8 at h1
    rw [hop] at h1
    simp only [ev] at h1
    cases hl:look t fr with
    | ptr r off =>
     rw [hl] at hp h1
     have hne:j ≠ r:=by
      rintro rfl
      simp only [b2O,hj] at hp; cases hp
     split at h1
     ·rename_i q he
      split at he
      ·rename_i hh1 hh2
       simp only [Option.some.injEq] at hh1
       subst hh1
       split at he
       ·rename_i K hK
        cases he
        simp only [Option.some.injEq,Prod.mk.injEq] at h1
        obtain ⟨rfl,rfl⟩:=h1
        exact b1z hK hne
       ·cases he
      ·cases he
     ·cases h1
    | _=>rw [hl] at hp; cases hp
theorem b3U {o:Oper} (ho:(a2l o || U9 o || a3W o || b04 sl o) = true) {v:V} (h:O0 env orc L sl ops o fr H = some (v,H')) {j:Nat} (hj:has j L = true):hget j H' = hget j H:=by
 cases hb:a3W o with
 | true=>exact box_keep hb h hj
 | false =>
 cases hst:b04 sl o with
 | true=>exact b2x hst h hj
 | false =>
 rw [hb,hst,Bool.or_false,Bool.or_false] at ho
 cases ha:U9 o with
 | true =>
  rcases a1O ha h with ⟨_,rfl,_⟩ | ⟨x,h1,h2,rfl,_⟩
  ·rfl
  ·have:=(List.all_eq_true.1 h1) j (a4q.1 hj)
   rw [l6,if_neg]
   rintro rfl
   rw [h2] at this; cases this
 | false =>
  rw [ha,Bool.or_false] at ho
  obtain ⟨h1,h2⟩:=Z8.1 h
  cases hw:o6 ops o fr with
  | none=>simp only [O0,hw] at h; cases h
  | some b =>
   cases b with
   | false=>simp only [O0,hw,Option.some.injEq,Prod.mk.injEq] at h; rw [h.2]
   | true =>
    have hp:=h2 hw
    rw [a4h ho] at hp
    have hp:=(List.all_eq_true.1 hp) j (a4q.1 hj)
    simp only [Bool.and_eq_true,Bool.not_eq_true'] at hp
    simp only [opV,hw] at h1
    cases hs:D5 env orc fr H o with
    | none=>rw [hs] at h1; cases h1
    | some r =>
     rw [hs] at h1
     cases r with
     | pan _ _=>cases h1
     | val v' K =>
      simp only [Option.some.injEq,Prod.mk.injEq] at h1
      obtain ⟨rfl,rfl⟩:=h1
      obtain ⟨g,l,g1,g2,g3⟩:=b2L ho hs
      refine b1K g1 (b1W.1 hp.2) fun hq=>?_
      rw [g3,hq] at hp
      exact hp.1
theorem a2D {o:Oper} (hl:a9z sl o = true) {v:V} (h:O0 env orc L sl ops o fr H = some (v,H')) {K:Hp} (hK:∀ j,has j L = true -> hget j K = hget j H):H' = H /\ O0 env orc L sl ops o fr K = some (v,K):=by
 unfold a9z at hl
 cases ht:W9 o with
 | none=>rw [ht] at hl; cases hl
 | some t =>
  rw [ht] at hl
  simp only at hl
  have ho:∃ ty,o.op = .load ty (.tmp t):=by
   unfold W9 at ht
   split at ht
   ·rename_i ty t' he; cases ht; exact ⟨ty,he⟩
   ·cases ht
  obtain ⟨ty,ho⟩:=ho
  have k1:a2l o = false:=by unfold a2l; rw [ho]
  have k2:U9 o = false:=by unfold U9; rw [ho]
  have k3:a3W o = false:=by unfold a3W; rw [ho]
  have k4:a2Q o = none:=by unfold a2Q; rw [ho]
  have hpr:∀ G,R9 env L sl fr G o = b0z L (look t fr):=fun G=>by
   unfold R9
   rw [k1,k2,k3,k4,ht]
   simp only [Bool.or_false,hl]
  have hp:F6 o.op = false:=by rw [ho]; rfl
  have he:∀ G,D5 env orc fr G o = match Z4 env.T ty (look t fr) G with | some v=>some (.val v G) | none=>none:=fun G=>by
   simp only [D5,hp]
   unfold H8
   rw [ho]
   simp only [ev]
   rfl
  have hsame:b0z L (look t fr) = true -> Z4 env.T ty (look t fr) K = Z4 env.T ty (look t fr) H:=fun hk=>by
   unfold Z4
   cases hv:look t fr with
   | ptr r off =>
    rw [hv] at hk
    cases G5 ty env.T with
    | none=>rfl
    | some y=>simp only; rw [hK r hk]
   | cptr cs=>cases G5 ty env.T <;> rfl
   | _=>rw [hv] at hk; cases hk
  simp only [O0,hpr,he] at h ⊢
  cases hw:o6 ops o fr with
  | none=>rw [hw] at h; cases h
  | some b =>
   rw [hw] at h
   cases b with
   | false=>simp only [Option.some.injEq,Prod.mk.injEq] at h ⊢; exact ⟨h.2.symm,h.1,trivial⟩
   | true =>
    simp only at h ⊢
    cases hk:b0z L (look t fr) with
    | false=>rw [hk] at h; cases h
    | true =>
     rw [hk] at h
     simp only at h ⊢
     rw [hsame hk]
     cases hv:Z4 env.T ty (look t fr) H with
     | none=>rw [hv] at h; cases h
     | some u=>rw [hv] at h; simp only [Option.some.injEq,Prod.mk.injEq] at h ⊢; exact ⟨h.2.symm,h.1,trivial⟩
theorem a6u {o:Oper} (hc:a1J env o.op = true) {v:V} (h:O0 env orc L sl ops o fr H = some (v,H')):H' = H:=a8o hc (Z8.1 h).1
theorem a4M {k:Nat} {o:Obj} (h:(L.all fun r=>isSome (hget r H)) = true):(L.all fun r=>isSome (hget r (hset k o H))) = true:=by
 rw [List.all_eq_true] at h ⊢
 intro r hr
 rw [l6]
 split
 ·rfl
 ·exact h r hr
theorem b1Q {o:Oper} (hc:a2l o = true) {r:OpR} {k:Nat} {x:Obj} (hp:R9 env L sl fr H o = true) (hs:D5 env orc fr H o = some r) (hk:hget k r.heap = none) (hne:∀ i,i < 64 -> newName o + i ≠ k) :
  R9 env L sl fr (hset k x H) o = true /\ D5 env orc fr (hset k x H) o = some (r.add k x) /\ hget k H = none:=by
 obtain ⟨g,l,g1,g2,g3⟩:=b2L hc hs
 have hk0:=b3l g1 hk
 refine ⟨?_,by rw [g2]; exact b3k g1 hk hne,hk0⟩
 rw [a4h hc,List.all_eq_true] at hp ⊢
 have ht:touch env fr (hset k x H) o = touch env fr H o:=by
  rw [g3,g3]
  cases hq:env.quiet g with
  | true=>rfl
  | false =>
   obtain ⟨r0,g0⟩:=b3m g1
   obtain ⟨ns,a2,H2,H3,v,v4,h1,h2,h3,_⟩:=a1v hq g0
   refine a2M (a5Y hk0) _ _ _ ?_
   rw [h1]
   exact (a4x (a5Y hk0 (o:=x)) h3).2
 intro j hj
 have:=hp j hj
 simp only [Bool.and_eq_true] at this ⊢
 rw [ht]
 refine ⟨this.1,?_⟩
 rw [l6]
 split
 ·rfl
 ·exact this.2
theorem swapP {x y:Oper} (hc:a0T env ops sl x y = true) {vx vy:V} {Hx Hy:Hp} (h1:O0 env orc L sl ops x fr H = some (vx,Hx)) (h3:O0 env orc L sl ops y (K8 x.dst vx fr) Hx = some (vy,Hy)) :
  ∃ K,O0 env orc L sl ops y fr H = some (vy,K) /\ O0 env orc L sl ops x (K8 y.dst vy fr) K = some (vx,Hy):=by
 simp only [a0T,Bool.and_eq_true] at hc
 obtain ⟨ha,hc⟩:=hc
 obtain ⟨a1,a2,a3⟩:=Oper.apart_spec ha
 have e1:O0 env orc L sl ops y (K8 x.dst vx fr) Hx = O0 env orc L sl ops y fr Hx:=a3k fun t ht=>by
  rw [U5,if_neg]; exact fun hd=>a1 t hd ht
 have e2:∀ K,O0 env orc L sl ops x (K8 y.dst vy fr) K = O0 env orc L sl ops x fr K:=fun K=>a3k fun t ht=>by
  rw [U5,if_neg]; exact fun hd=>a3 t hd ht
 rw [e1] at h3
 simp only [e2]
 simp only [Bool.or_eq_true,Bool.and_eq_true,Bool.not_eq_true'] at hc
 rcases hc with ((hc | hc) | ⟨hc,hc'⟩) | (⟨hc,hc'⟩ | ⟨hc,hn⟩)
 ·obtain ⟨rfl,g⟩:=a2G hc h1
  exact ⟨Hy,h3,g Hy⟩
 ·obtain ⟨rfl,g⟩:=a2G hc h3
  exact ⟨H,g H,h1⟩
 ·have:=a6u hc h1
  subst this
  have:=a6u hc' h3
  subst this
  exact ⟨_,h3,h1⟩
 ·have hx:=(a2D hc h1 (fun _ _=>rfl)).1
  subst hx
  exact ⟨Hy,h3,(a2D hc h1 fun j hj=>b3U (by simp only [Bool.or_eq_true]; exact hc') h3 hj).2⟩
 ·have hay:U9 y = true:=by rcases hc with ⟨_,h⟩ | ⟨_,h⟩ <;> exact h
  rcases a1O hay h3 with ⟨_,rfl,g⟩ | ⟨z,g1,g2,rfl,g3⟩
  ·exact ⟨H,g H,h1⟩
  ·rcases hc with ⟨hcx,_⟩ | ⟨hax,_⟩
   ·obtain ⟨p1,p2⟩:=Z8.1 h1
    cases hw:o6 ops x fr with
    | none=>simp only [O0,hw] at h1; cases h1
    | some b =>
     cases b with
     | false =>
      simp only [O0,hw,Option.some.injEq,Prod.mk.injEq] at h1
      obtain ⟨rfl,rfl⟩:=h1
      exact ⟨_,g3 _ g2 g1,by simp only [O0,hw]⟩
     | true =>
      have hp:=p2 hw
      simp only [opV,hw] at p1
      cases hs:D5 env orc fr H x with
      | none=>rw [hs] at p1; cases p1
      | some r =>
       rw [hs] at p1
       cases r with
       | pan _ _=>cases p1
       | val v' K =>
        simp only [Option.some.injEq,Prod.mk.injEq] at p1
        obtain ⟨rfl,rfl⟩:=p1
        obtain ⟨q1,q2,q3⟩:=b1Q (x:=z) hcx hp hs g2 (a4a hn)
        refine ⟨_,g3 H q3 ?_,?_⟩
        ·have:=hp
         rw [a4h hcx,List.all_eq_true] at this
         rw [List.all_eq_true]
         intro r hr
         have:=this r hr
         simp only [Bool.and_eq_true] at this
         exact this.2
        ·simp only [O0,hw,q1,q2]; rfl
   ·rcases a1O hax h1 with ⟨_,rfl,g4⟩ | ⟨u,k1,k2,rfl,k3⟩
    ·exact ⟨_,g3 _ g2 g1,g4 _⟩
    ·have hne:newName y ≠ newName x:=by
      intro he; rw [he] at hn; simp at hn
     rw [l6,if_neg hne] at g2
     refine ⟨_,g3 H g2 k1,?_⟩
     rw [a2z hne]
     exact k3 _ (by rw [l6,if_neg (Ne.symm hne)]; exact k2) (a4M k1)
def isSto (o:Oper):Bool:=match a2Q o with
 | some _=>true
 | none=>false
def a5f (o:Oper):Bool:=!F6 o.op && !(isLd o || a3W o || isSto o) && !(U9 o)
theorem b0B {o:Oper} {v:V} (h:a4K env orc L sl ops o fr H v H'):a5f o = true:=by
 obtain ⟨_,_,h⟩:=h
 unfold a5f
 cases hp:F6 o.op with
 | true =>
  simp only [D5,hp] at h
  split at h <;> cases h
 | false =>
  simp only [D5,hp] at h
  cases hbx:a3W o with
  | true =>
   obtain ⟨t,x,hop⟩:∃ t x,o.op = .box t x:=by
    unfold a3W at hbx
    split at hbx
    ·rename_i t x he; exact ⟨t,x,he⟩
    ·cases hbx
   unfold H8 at h
   rw [hop] at h
   simp only at h
   split at h
   ·split at h <;> cases h
   ·cases h
  | false =>
  cases hsto:isSto o with
  | true =>
   obtain ⟨ty,t,x,hop⟩:∃ ty t x,o.op = .store ty (.tmp t) x:=by
    unfold isSto at hsto
    cases hs:a2Q o with
    | none=>rw [hs] at hsto; cases hsto
    | some t =>
     unfold a2Q at hs
     split at hs
     ·rename_i ty t' x he; exact ⟨ty,t',x,he⟩
     ·cases hs
   unfold H8 at h
   rw [hop] at h
   simp only at h
   split at h
   ·split at h <;> cases h
   ·cases h
  | false =>
  cases hl:isLd o with
  | true =>
   obtain ⟨t,ht⟩:=a6q hl
   have ho:∃ ty,o.op = .load ty (.tmp t):=by
    unfold W9 at ht
    split at ht
    ·rename_i ty t' he; cases ht; exact ⟨ty,he⟩
    ·cases ht
   obtain ⟨ty,ho⟩:=ho
   unfold H8 at h
   rw [ho] at h
   simp only at h
   split at h
   ·split at h <;> cases h
   ·cases h
  | false =>
   cases ha:U9 o with
   | true =>
    obtain ⟨t,ho⟩:=a4L ha
    unfold H8 at h
    rw [ho] at h
    simp only at h
    split at h <;> cases h
   | false=>rfl
end
end Go.Vm
namespace Go.Vm
section
variable {env:Env} {orc:Orc} {ops:Array Oper} {L sl:List Nat} {fr fr':Fr} {H H':Hp}
theorem a0j {l:List Oper} {r:Res}:∀ {A:List Oper} {fr:Fr} {H:Hp},u6 env orc L sl ops (A ++ l) fr H = some r ↔
  (∃ fA HA,u6 env orc L sl ops A fr H = some (.normal,fA,HA) /\ u6 env orc L sl ops l fA HA = some r) ∨ ∃ v f H',u6 env orc L sl ops A fr H = some (.panic v,f,H') /\ r = (.panic v,f,H')
 | [],fr,H=>by
  simp only [List.nil_append,u6,Option.some.injEq,Prod.mk.injEq,true_and,reduceCtorEq,false_and,exists_false,or_false]
  exact ⟨fun h=>⟨fr,H,⟨rfl,rfl⟩,h⟩,fun ⟨_,_,⟨h1,h2⟩,h⟩=>by subst h1 h2; exact h⟩
 | o :: A,fr,H=>by
  rw [List.cons_append,H7]
  constructor
  ·rintro (⟨v,H',h1,h2⟩ | ⟨v,H',h1,h2⟩)
   ·rcases a0j.1 h2 with ⟨fA,HA,h3,h4⟩ | ⟨v',f,K,h3,h4⟩
    ·exact .inl ⟨fA,HA,H7.2 (.inl ⟨v,H',h1,h3⟩),h4⟩
    ·exact .inr ⟨v',f,K,H7.2 (.inl ⟨v,H',h1,h3⟩),h4⟩
   ·exact .inr ⟨v,fr,H',H7.2 (.inr ⟨v,H',h1,rfl⟩),h2⟩
  ·rintro (⟨fA,HA,h1,h2⟩ | ⟨v',f,K,h1,h2⟩)
   ·rcases H7.1 h1 with ⟨v,H',h3,h4⟩ | ⟨v,H',h3,h4⟩
    ·exact .inl ⟨v,H',h3,a0j.2 (.inl ⟨fA,HA,h4,h2⟩)⟩
    ·cases h4
   ·rcases H7.1 h1 with ⟨v,H',h3,h4⟩ | ⟨v,H',h3,h4⟩
    ·exact .inl ⟨v,H',h3,a0j.2 (.inr ⟨v',f,K,h4,h2⟩)⟩
    ·cases h4; exact .inr ⟨v',K,h3,h2⟩
theorem b1l {x y:Oper} (ha:x.apart ops y = true) (vx vy:V) (fr:Fr):a1Y (K8 y.dst vy (K8 x.dst vx fr)) (K8 x.dst vx (K8 y.dst vy fr)):=by
 obtain ⟨a1,a2,a3⟩:=Oper.apart_spec ha
 intro t
 simp only [U5]
 by_cases hx:x.dst = some t
 ·rw [if_pos hx,if_neg (a2 t hx),if_pos hx]
 ·rw [if_neg hx]
  by_cases hy:y.dst = some t
  ·rw [if_pos hy,if_neg hx]
  ·rw [if_neg hy,if_neg hx]
theorem a3O {x y:Oper} (h:a0T env ops sl x y = true):x.apart ops y = true:=by
 simp only [a0T,Bool.and_eq_true] at h; exact h.1
theorem b2I {y:Oper}:∀ {A:List Oper} {fr fA:Fr} {H HA:Hp} {vy:V} {Hy:Hp},(∀ x ∈ A,a0T env ops sl x y = true) -> u6 env orc L sl ops A fr H = some (.normal,fA,HA) -> O0 env orc L sl ops y fA HA = some (vy,Hy) ->
  ∃ K f',O0 env orc L sl ops y fr H = some (vy,K) /\ u6 env orc L sl ops A (K8 y.dst vy fr) K = some (.normal,f',Hy) /\ a1Y (K8 y.dst vy fA) f'
 | [],fr,fA,H,HA,vy,Hy,_,h1,h2=>by
  simp only [u6,Option.some.injEq,Prod.mk.injEq,true_and] at h1
  obtain ⟨rfl,rfl⟩:=h1
  exact ⟨Hy,_,h2,rfl,.refl _⟩
 | x :: A,fr,fA,H,HA,vy,Hy,hc,h1,h2=>by
  rcases H7.1 h1 with ⟨vx,Hx,h3,h4⟩ | ⟨_,_,_,h4⟩
  ·obtain ⟨K,f',h5,h6,h7⟩:=b2I (fun z hz=>hc z (List.mem_cons_of_mem _ hz)) h4 h2
   obtain ⟨K',h8,h9⟩:=swapP (hc x (List.mem_cons_self ..)) h3 h5
   obtain ⟨f2,h10,h11⟩:=a10 (b1l (a3O (hc x (List.mem_cons_self ..))) vx vy fr) h6
   exact ⟨K',f2,h8,H7.2 (.inl ⟨vx,K,h9,h10⟩),h7.trans h11⟩
  ·cases h4
theorem neutral {x y:Oper} (hc:a0T env ops sl x y = true) (hp:F6 y.op = false) (ha:U9 y = false) {v:V} (h:O0 env orc L sl ops x fr H = some (v,H')):H' = H:=by
 simp only [a0T,Bool.and_eq_true,Bool.or_eq_true,hp,ha] at hc
 rcases hc.2 with ((hc | hc) | ⟨hc,_⟩) | (⟨hc,_⟩ | ⟨hc,_⟩)
 ·exact (a2G hc h).1
 ·cases hc
 ·exact a6u hc h
 ·exact (a2D hc h (fun _ _=>rfl)).1
 ·rcases hc with ⟨_,h⟩ | ⟨_,h⟩ <;> cases h
theorem b2J {y:Oper} (hyp:F6 y.op = false) (hya:U9 y = false) {v:V}:∀ {A:List Oper} {fr fA:Fr} {H HA:Hp},(∀ x ∈ A,a0T env ops sl x y = true) -> u6 env orc L sl ops A fr H = some (.normal,fA,HA) -> a4K env orc L sl ops y fA HA v H' ->
  a4K env orc L sl ops y fr H v H'
 | [],fr,fA,H,HA,_,h1,h2=>by
  simp only [u6,Option.some.injEq,Prod.mk.injEq,true_and] at h1
  obtain ⟨rfl,rfl⟩:=h1
  exact h2
 | x :: A,fr,fA,H,HA,hc,h1,h2=>by
  rcases H7.1 h1 with ⟨vx,Hx,h3,h4⟩ | ⟨_,_,_,h4⟩
  ·have h5:=b2J hyp hya (fun z hz=>hc z (List.mem_cons_of_mem _ hz)) h4 h2
   have hx:=hc x (List.mem_cons_self ..)
   have:=neutral hx hyp hya h3
   subst this
   obtain ⟨a1,_,_⟩:=Oper.apart_spec (a3O hx)
   exact a3K (fun t ht=>by rw [U5,if_neg]; exact fun hd=>a1 t hd ht) h5
  ·cases h4
theorem frameN {x y:Oper} (hc:a0T env ops sl x y = true) (hy:U9 y = true) {v:V} {z:Obj} (h:O0 env orc L sl ops x fr H = some (v,H')) (hk:hget (newName y) H' = none) :
  O0 env orc L sl ops x fr (hset (newName y) z H) = some (v,hset (newName y) z H') /\ hget (newName y) H = none:=by
 simp only [a0T,Bool.and_eq_true] at hc
 have hyp:=(a3M hy).2.2
 have hc:=hc.2
 simp only [Bool.or_eq_true,Bool.and_eq_true,hyp,Bool.not_eq_true'] at hc
 have hyc:a1J env y.op = false:=by obtain ⟨t,ho⟩:=a4L hy; rw [ho]; rfl
 rcases hc with ((hc | hc) | ⟨_,hc⟩) | (⟨hc,_⟩ | ⟨hc,hn⟩)
 ·obtain ⟨rfl,g⟩:=a2G hc h; exact ⟨g _,hk⟩
 ·cases hc
 ·rw [hyc] at hc; cases hc
 ·have hx:=(a2D hc h (fun _ _=>rfl)).1
  subst hx
  refine ⟨?_,hk⟩
  unfold a9z at hc
  cases ht:W9 x with
  | none=>rw [ht] at hc; cases hc
  | some t =>
   have ho:∃ ty,x.op = .load ty (.tmp t):=by
    unfold W9 at ht
    split at ht
    ·rename_i ty t' he; cases ht; exact ⟨ty,he⟩
    ·cases ht
   obtain ⟨ty,ho⟩:=ho
   have k1:a2l x = false:=by unfold a2l; rw [ho]
   have k2:U9 x = false:=by unfold U9; rw [ho]
   have k3:a3W x = false:=by unfold a3W; rw [ho]
   have hpr:∀ G,R9 env L sl fr G x = R9 env L sl fr H' x:=fun G=>by unfold R9; rw [k1,k2,k3]; rfl
   have hp:F6 x.op = false:=by rw [ho]; rfl
   have he:∀ G,D5 env orc fr G x = match Z4 env.T ty (look t fr) G with | some v=>some (.val v G) | none=>none:=fun G=>by
    simp only [D5,hp]
    unfold H8
    rw [ho]
    simp only [ev]
    rfl
   simp only [O0,he] at h ⊢
   rw [hpr]
   cases hw:o6 ops x fr with
   | none=>rw [hw] at h; cases h
   | some b =>
    rw [hw] at h
    cases b with
    | false=>simp only [Option.some.injEq,Prod.mk.injEq] at h ⊢; exact ⟨h.1,trivial⟩
    | true =>
     simp only at h ⊢
     cases hq:R9 env L sl fr H' x with
     | false=>rw [hq] at h; cases h
     | true =>
      rw [hq] at h
      simp only at h ⊢
      have hv:∀ u,Z4 env.T ty (look t fr) H' = some u -> Z4 env.T ty (look t fr) (hset (newName y) z H') = some u:=by
       intro u hu
       unfold Z4 at hu ⊢
       cases hl:look t fr with
       | ptr r off =>
        rw [hl] at hu
        cases hT:G5 ty env.T with
        | none=>rw [hT] at hu; cases hu
        | some yy =>
         rw [hT] at hu
         simp only at hu ⊢
         have:hget r (hset (newName y) z H') = hget r H':=by
          rw [l6,if_neg]
          rintro rfl
          rw [hk] at hu; cases hu
         rw [this]; exact hu
       | cptr cs=>rw [hl] at hu; cases hT:G5 ty env.T <;> (rw [hT] at hu; exact hu)
       | _=>rw [hl] at hu; cases hT:G5 ty env.T <;> (rw [hT] at hu; cases hu)
      cases hu:Z4 env.T ty (look t fr) H' with
      | none=>rw [hu] at h; cases h
      | some u =>
       rw [hu] at h
       rw [hv u hu]
       simp only [Option.some.injEq,Prod.mk.injEq] at h ⊢
       exact ⟨h.1,trivial⟩
 ·rcases hc with ⟨hcx,_⟩ | ⟨hax,_⟩
  ·obtain ⟨p1,p2⟩:=Z8.1 h
   cases hw:o6 ops x fr with
   | none=>simp only [O0,hw] at h; cases h
   | some b =>
    cases b with
    | false =>
     simp only [O0,hw,Option.some.injEq,Prod.mk.injEq] at h
     obtain ⟨rfl,rfl⟩:=h
     exact ⟨by simp only [O0,hw],hk⟩
    | true =>
     have hp:=p2 hw
     simp only [opV,hw] at p1
     cases hs:D5 env orc fr H x with
     | none=>rw [hs] at p1; cases p1
     | some r =>
      rw [hs] at p1
      cases r with
      | pan _ _=>cases p1
      | val v' K =>
       simp only [Option.some.injEq,Prod.mk.injEq] at p1
       obtain ⟨rfl,rfl⟩:=p1
       obtain ⟨q1,q2,q3⟩:=b1Q (x:=z) hcx hp hs hk (a4a hn)
       exact ⟨by simp only [O0,hw,q1,q2]; rfl,q3⟩
  ·rcases a1O hax h with ⟨_,rfl,g4⟩ | ⟨u,k1,k2,rfl,k3⟩
   ·exact ⟨g4 _,hk⟩
   ·have hne:newName y ≠ newName x:=by intro he; rw [he] at hn; simp at hn
    rw [l6,if_neg hne] at hk
    refine ⟨?_,hk⟩
    rw [a2z hne]
    exact k3 _ (by rw [l6,if_neg (Ne.symm hne)]; exact k2) (a4M k1)
theorem framePan {x y:Oper} (hc:a0T env ops sl x y = true) (hy:U9 y = true) {v:V} {z:Obj} (h:a4K env orc L sl ops x fr H v H') (hk:hget (newName y) H' = none) :
  a4K env orc L sl ops x fr (hset (newName y) z H) v (hset (newName y) z H') /\ hget (newName y) H = none /\ (L.all fun r=>isSome (hget r H)) = true:=by
 have hm:=b0B h
 have hyp:=(a3M hy).2.2
 have hyc:a1J env y.op = false:=by obtain ⟨t,ho⟩:=a4L hy; rw [ho]; rfl
 simp only [a5f,Bool.and_eq_true,Bool.not_eq_true'] at hm
 simp only [a0T,Bool.and_eq_true] at hc
 have hc:=hc.2
 simp only [Bool.or_eq_true,Bool.and_eq_true,hyp,hm.1.1,hm.2,hyc,Bool.not_eq_true'] at hc
 have hcx:a2l x = true:=by
  rcases hc with ((hc | hc) | ⟨_,hc⟩) | (⟨hc,_⟩ | ⟨hc,hn⟩)
  ·cases hc
  ·cases hc
  ·cases hc
  ·have:=hm.1.2
   simp only [Bool.or_eq_false_iff] at this
   have:=this.1.1
   unfold a9z at hc
   unfold isLd at this
   cases ht:W9 x with
   | none=>rw [ht] at hc; cases hc
   | some t=>rw [ht] at this; cases this
  ·rcases hc with ⟨h,_⟩ | ⟨h,_⟩
   ·exact h
   ·cases h
 have hn:Nat.beq (newName x) (newName y) = false:=by
  rcases hc with ((hc | hc) | ⟨_,hc⟩) | (⟨hc,_⟩ | ⟨hc,hn⟩)
  ·cases hc
  ·cases hc
  ·cases hc
  ·have:=hm.1.2
   simp only [Bool.or_eq_false_iff] at this
   have:=this.1.1
   unfold a9z at hc
   unfold isLd at this
   cases ht:W9 x with
   | none=>rw [ht] at hc; cases hc
   | some t=>rw [ht] at this; cases this
  ·exact hn
 obtain ⟨h1,h2,h3⟩:=h
 obtain ⟨q1,q2,q3⟩:=b1Q (x:=z) hcx h2 h3 hk (a4a hn)
 refine ⟨⟨h1,q1,q2⟩,q3,?_⟩
 rw [a4h hcx,List.all_eq_true] at h2
 rw [List.all_eq_true]
 intro r hr
 have:=h2 r hr
 simp only [Bool.and_eq_true] at this
 exact this.2
theorem b3Q {x y:Oper} (hc:a0T env ops sl x y = true) (hy:U9 y = true) {v:V} (h:O0 env orc L sl ops x fr H = some (v,H')) (hs:(L.all fun r=>isSome (hget r H')) = true):(L.all fun r=>isSome (hget r H)) = true:=by
 have hyp:=(a3M hy).2.2
 have hyc:a1J env y.op = false:=by obtain ⟨t,ho⟩:=a4L hy; rw [ho]; rfl
 simp only [a0T,Bool.and_eq_true] at hc
 have hc:=hc.2
 simp only [Bool.or_eq_true,Bool.and_eq_true,hyp,hyc,Bool.not_eq_true'] at hc
 rcases hc with ((hc | hc) | ⟨_,hc⟩) | (⟨hc,_⟩ | ⟨hc,hn⟩)
 ·rw [<- (a2G hc h).1]; exact hs
 ·cases hc
 ·cases hc
 ·rw [<- (a2D hc h (fun _ _=>rfl)).1]; exact hs
 ·rcases hc with ⟨hcx,_⟩ | ⟨hax,_⟩
  ·obtain ⟨p1,p2⟩:=Z8.1 h
   cases hw:o6 ops x fr with
   | none=>simp only [O0,hw] at h; cases h
   | some b =>
    cases b with
    | false =>
     simp only [O0,hw,Option.some.injEq,Prod.mk.injEq] at h
     rw [h.2]; exact hs
    | true =>
     have hp:=p2 hw
     rw [a4h hcx,List.all_eq_true] at hp
     rw [List.all_eq_true]
     intro r hr
     have:=hp r hr
     simp only [Bool.and_eq_true] at this
     exact this.2
  ·rcases a1O hax h with ⟨_,rfl,g4⟩ | ⟨u,k1,k2,rfl,k3⟩
   ·exact hs
   ·exact k1
theorem a9f {y:Oper} (hy:U9 y = true) {v:V} {z:Obj} {u:V}:∀ {A:List Oper} {fr f1:Fr} {H H1:Hp},(∀ x ∈ A,a0T env ops sl x y = true) -> u6 env orc L sl ops A fr H = some (.panic v,f1,H1) -> hget (newName y) H1 = none ->
  hget (newName y) H = none /\ (L.all fun r=>isSome (hget r H)) = true /\ ∃ f2,u6 env orc L sl ops A (K8 y.dst u fr) (hset (newName y) z H) = some (.panic v,f2,hset (newName y) z H1)
 | [],fr,f1,H,H1,_,h,_=>by simp only [u6] at h; cases h
 | x :: A,fr,f1,H,H1,hc,h,hk=>by
  have hx:=hc x (List.mem_cons_self ..)
  have ha:=a3O hx
  obtain ⟨a1,a2,a3⟩:=Oper.apart_spec ha
  rcases H7.1 h with ⟨vx,Hx,h3,h4⟩ | ⟨v',K,h3,h4⟩
  ·obtain ⟨g1,g2,f2,g3⟩:=a9f hy (fun w hw=>hc w (List.mem_cons_of_mem _ hw)) h4 hk
   obtain ⟨k1,k2⟩:=frameN (z:=z) hx hy h3 g1
   have k1':O0 env orc L sl ops x (K8 y.dst u fr) (hset (newName y) z H) = some (vx,hset (newName y) z Hx):=by
    rw [<- k1]
    exact a3k fun t ht=>by rw [U5,if_neg]; exact fun hd=>a3 t hd ht
   obtain ⟨f3,k3,_⟩:=a10 (b1l ha vx u fr) g3
   exact ⟨k2,b3Q hx hy h3 g2,f3,H7.2 (.inl ⟨_,_,k1',k3⟩)⟩
  ·simp only [Prod.mk.injEq,Ex.panic.injEq] at h4
   obtain ⟨rfl,rfl,rfl⟩:=h4
   obtain ⟨k1,k2,k3⟩:=framePan (z:=z) hx hy h3 hk
   refine ⟨k2,k3,_,H7.2 (.inr ⟨v,_,a3K (fun t ht=>?_) k1,rfl⟩)⟩
   rw [U5,if_neg]; exact fun hd=>a3 t hd ht
end
end Go.Vm
namespace Go.Vm
section
variable {env:Env} {orc:Orc} {ops:Array Oper} {L sl:List Nat} {fr fr':Fr} {H H':Hp}
def bitB (m i:Nat):Bool:=Nat.beq (Nat.land (Nat.shiftRight m i) 1) 1
def ancB (M:List Nat) (j i:Nat):Bool:=bitB (M.getD j 0) i
def a7x (ops:Array Oper) (M:List Nat):Bool:=(List.range ops.size).all fun j=>match ops[j]? with
 | none=>true
 | some o=>(List.range ops.size).all fun i=>!ancB M j i || o.after.toList.any fun e=>Region.binds .any e && Nat.blt e.on j && (Nat.beq e.on i || ancB M e.on i)
def b1i (env:Env) (ops:Array Oper) (sl M:List Nat) (i j:Nat):Bool:=match ops[i]?,ops[j]? with
 | some x,some y=>ancB M j i || (a0T env ops sl x y && (!a5f x || U9 y))
 | _,_=>true
def a6g (ops:Array Oper) (i j:Nat):Bool:=match ops[i]?,ops[j]? with
 | some x,some y=>!(U9 x && U9 y) || !Nat.beq (newName x) (newName y)
 | _,_=>true
def b0A (env:Env) (ops:Array Oper) (sl M:List Nat):List Nat -> Bool
 | []=>true
 | i :: r=>(r.all fun j=>b1i env ops sl M i j && a6g ops i j && !Nat.beq i j) && b0A env ops sl M r
def alB (env:Env) (o:Oper):Bool:=match o.op with
 | .alloc t=>(match o.guard with | none=>isSome (G5 t env.T) | some _=>false)
 | _=>true
def sepB (env:Env) (ops:Array Oper) (S sl M:List Nat):Bool :=
 a6k ops && a7x ops M && b0A env ops sl M S && ((List.range ops.size).all fun i=>has i S) && (S.all fun i=>Nat.blt i ops.size) && ops.toList.all (alB env)
def a0t (S:List Nat) (listed:Array Bool):List Nat:=S.filter fun i=>!listed.getD i true
def a7m (ops:Array Oper) (listed:Array Bool):Prop:=∀ (i:Nat) (o:Oper) (e:Edge),listed.getD i true = true -> ops[i]? = some o -> e ∈ o.after.toList -> Region.binds .any e = true -> listed.getD e.on false = true
theorem a9w {listed:Array Bool} {i:Nat} (h:listed.getD i false = true):listed.getD i true = true:=by
 simp only [Array.getD_eq_getD_getElem?] at h ⊢
 cases hq:listed[i]? with
 | none=>rfl
 | some b=>rw [hq] at h; exact h
theorem a7H {M:List Nat} (hM:a7x ops M = true) {listed:Array Bool} (hc:a7m ops listed):∀ (n j i:Nat),j < n -> j < ops.size -> i < ops.size -> ancB M j i = true ->
  (∀ (o:Oper) (e:Edge),ops[j]? = some o -> e ∈ o.after.toList -> Region.binds .any e = true -> listed.getD e.on false = true) -> listed.getD i false = true
 | 0,j,i,h,_,_,_,_=>by omega
 | n + 1,j,i,hn,hj,hi,ha,he=>by
  have h:=hM
  simp only [a7x,List.all_eq_true,List.mem_range] at h
  have h:=h j hj
  have ho:ops[j]? = some ops[j]:=by simp [hj]
  rw [ho] at h
  simp only [List.all_eq_true,List.mem_range] at h
  have h:=h i hi
  rw [ha] at h
  simp only [Bool.not_true,Bool.false_or,List.any_eq_true,Bool.and_eq_true,Bool.or_eq_true] at h
  obtain ⟨e,h1,⟨h2,h3⟩,h4⟩:=h
  have hl:=he _ e ho h1 h2
  have hlt:e.on < j:=by simpa [Nat.blt_eq] using h3
  rcases h4 with h4 | h4
  ·rw [Nat.eq_of_beq_eq_true h4] at hl; exact hl
  ·exact a7H hM hc n e.on i (by omega) (by omega) hi h4 (fun o' e' ho' he' hb'=>hc e.on o' e' (a9w hl) ho' he' hb')
theorem a2c {M:List Nat}:∀ {S:List Nat},b0A env ops sl M S = true -> S.Pairwise (fun i j=>b1i env ops sl M i j = true /\ a6g ops i j = true /\ i ≠ j)
 | [],_=>.nil
 | i :: r,h=>by
  simp only [b0A,Bool.and_eq_true,List.all_eq_true,Bool.not_eq_true'] at h
  refine .cons (fun j hj=>?_) (a2c h.2)
  have:=h.1 j hj
  refine ⟨this.1.1,this.1.2,?_⟩
  rintro rfl
  have:=this.2
  simp at this
theorem least:∀ (l:List Nat),l ≠ [] -> ∃ i ∈ l,∀ j ∈ l,i <= j
 | [],h=>absurd rfl h
 | [a],_=>⟨a,List.mem_singleton.2 rfl,fun j hj=>by rw [List.mem_singleton.1 hj]; exact Nat.le_refl _⟩
 | a :: b :: r,_=>by
  obtain ⟨i,hi,h⟩:=least (b :: r) (by simp)
  rcases Nat.lt_or_ge i a with h1 | h1
  ·refine ⟨i,List.mem_cons_of_mem _ hi,fun j hj=>?_⟩
   rcases List.mem_cons.1 hj with rfl | hj
   ·omega
   ·exact h j hj
  ·refine ⟨a,List.mem_cons_self ..,fun j hj=>?_⟩
   rcases List.mem_cons.1 hj with rfl | hj
   ·exact Nat.le_refl _
   ·exact Nat.le_trans h1 (h j hj)
theorem b25 {v:V}:∀ {A:List Oper} {fr f1:Fr} {H H1:Hp},u6 env orc L sl ops A fr H = some (.panic v,f1,H1) -> ∃ x ∈ A,a5f x = true
 | [],_,_,_,_,h=>by simp only [u6] at h; cases h
 | x :: A,_,_,_,_,h=>by
  rcases H7.1 h with ⟨_,_,_,h4⟩ | ⟨_,_,h3,_⟩
  ·obtain ⟨z,hz,hm⟩:=b25 h4
   exact ⟨z,List.mem_cons_of_mem _ hz,hm⟩
  ·exact ⟨x,List.mem_cons_self ..,b0B h3⟩
theorem opVP_al {o:Oper} (ha:U9 o = true) (hb:alB env o = true) (hk:hget (newName o) H = none) (hL:(L.all fun r=>isSome (hget r H)) = true) :
  ∃ u z,O0 env orc L sl ops o fr H = some (u,hset (newName o) z H):=by
 obtain ⟨t,ho⟩:=a4L ha
 unfold alB at hb
 rw [ho] at hb
 simp only at hb
 cases hg:o.guard with
 | some x=>rw [hg] at hb; cases hb
 | none =>
  rw [hg] at hb
  simp only at hb
  cases hT:G5 t env.T with
  | none=>rw [hT] at hb; cases hb
  | some y =>
   refine ⟨.ptr (newName o) 0,.row y.zero,?_⟩
   have hp:=(a3M ha).2.2
   have he:H8 env orc fr H o = some (.val (.ptr (newName o) 0) (hset (newName o) (.row y.zero) H)):=by
    unfold H8
    rw [ho]
    simp only [hT,hk]
   simp only [O0,o6,hg,a8v ha,hL,D5,hp,he]
theorem a7v {S M:List Nat} (hE:a6k ops = true) (hM:a7x ops M = true) (hall:∀ j,j < ops.size -> j ∈ S) (hlt:∀ j,j ∈ S -> j < ops.size) (hP:S.Pairwise (fun i j=>b1i env ops sl M i j = true /\ a6g ops i j = true /\ i ≠ j)) (hal:∀ o ∈ ops.toList,alB env o = true) :
  ∀ (fuel t:Nat) (listed:Array Bool) (fr:Fr) (H:Hp) (ex:Ex) (f1:Fr) (H1:Hp),listed.size = ops.size -> a7m ops listed -> (a0t S listed).length <= fuel ->
  u6 env orc L sl ops ((a0t S listed).filterMap (ops[·]?)) fr H = some (ex,f1,H1) ->
  (∀ v,ex = .panic v -> ∀ i ∈ a0t S listed,∀ o,ops[i]? = some o -> U9 o = true -> hget (newName o) H1 = none) ->
  ∃ f2 H2,u6 env orc L sl ops ((Region.linearise.go .any ops fuel t listed []).filterMap (ops[·]?)) fr H = some (ex,f2,H2) /\ (ex = .normal -> H2 = H1 /\ a1Y f1 f2) /\ Sub H1 H2
 | 0,t,listed,fr,H,ex,f1,H1,hsz,hc,hl,h,hab=>by
  have:a0t S listed = []:=by simpa using hl
  rw [this] at h
  simp only [Region.linearise.go,List.reverse_nil]
  exact ⟨f1,H1,h,fun _=>⟨rfl,.refl _⟩,.refl _⟩
 | fuel + 1,t,listed,fr,H,ex,f1,H1,hsz,hc,hl,h,hab=>by
  have hpw:(a0t S listed).Pairwise (fun i j=>b1i env ops sl M i j = true /\ a6g ops i j = true /\ i ≠ j):=List.Pairwise.sublist List.filter_sublist hP
  have hnd:(a0t S listed).Nodup:=hpw.imp fun h=>h.2.2
  have hmem:∀ j,j ∈ a0t S listed ↔ j < ops.size /\ listed.getD j true = false:=fun j=>by
   simp only [a0t,List.mem_filter,Bool.not_eq_true']
   exact ⟨fun h=>⟨hlt j h.1,h.2⟩,fun h=>⟨hall j h.1,h.2⟩⟩
  have hready:∀ j,j ∈ Region.ready .any ops listed ↔ j ∈ a0t S listed /\ ∀ o,ops[j]? = some o -> ∀ e ∈ o.after.toList,Region.binds .any e = true -> listed.getD e.on false = true:=by
   intro j
   rw [hmem]
   simp only [Region.ready,List.mem_filter,List.mem_range,Bool.and_eq_true,Bool.not_eq_true',and_assoc]
   refine and_congr_right fun hj=>and_congr_right fun _=>?_
   have ho:ops[j]? = some ops[j]:=by simp [hj]
   rw [ho]
   simp only [Option.map_some,Option.getD_some,Array.all_eq_true_iff_forall_mem,Bool.or_eq_true,Bool.not_eq_true',Option.some.injEq]
   constructor
   ·rintro h1 o rfl e he hb
    rcases h1 e (by simpa using he) with h2 | h2
    ·rw [hb] at h2; cases h2
    ·exact h2
   ·intro h1 e he
    cases hb:Region.binds .any e with
    | false=>exact .inl rfl
    | true=>exact .inr (h1 _ rfl e (by simpa using he) hb)
  simp only [Region.linearise.go]
  change ∃ f2 H2,u6 env orc L sl ops ((match (Region.ready .any ops listed)[t % (Region.ready .any ops listed).length]? with
   | some i=>Region.linearise.go .any ops fuel (t / (Region.ready .any ops listed).length) (listed.setIfInBounds i true) [i]
   | none=>[].reverse).filterMap (ops[·]?)) fr H = some (ex,f2,H2) /\ (ex = .normal -> H2 = H1 /\ a1Y f1 f2) /\ Sub H1 H2
  cases hi:(Region.ready .any ops listed)[t % (Region.ready .any ops listed).length]? with
  | none =>
   have hnil:Region.ready .any ops listed = []:=by
    cases hr:Region.ready .any ops listed with
    | nil=>rfl
    | cons x xs =>
     rw [hr] at hi
     have hlt:t % (x :: xs).length < (x :: xs).length:=Nat.mod_lt _ (by simp)
     simp at hi
     simp at hlt
     omega
   have hr0:a0t S listed = []:=by
    by_cases hr:a0t S listed = []
    ·exact hr
    ·exfalso
     obtain ⟨i0,hin,hmin⟩:=least _ hr
     have hrd:i0 ∈ Region.ready .any ops listed:=by
      refine (hready i0).2 ⟨hin,fun o ho e he hb=>?_⟩
      have hi0:=((hmem i0).1 hin).1
      have hlt:e.on < i0:=by
       simp only [a6k,List.all_eq_true,List.mem_range] at hE
       have:=hE i0 hi0
       rw [ho] at this
       simp only [List.all_eq_true,Bool.or_eq_true,Bool.not_eq_true'] at this
       rcases this e he with h2 | h2
       ·rw [hb] at h2; cases h2
       ·simpa [Nat.blt_eq] using h2
      have hon:e.on < ops.size:=by omega
      have hno:e.on ∉ a0t S listed:=fun h3=>by have:=hmin _ h3; omega
      rw [hmem] at hno
      have h4:listed.getD e.on true = true:=by
       cases hq:listed.getD e.on true with
       | true=>rfl
       | false=>exact absurd ⟨hon,hq⟩ hno
      simp only [Array.getD_eq_getD_getElem?] at h4 ⊢
      rw [Array.getElem?_eq_getElem (by omega)] at h4 ⊢
      exact h4
     rw [hnil] at hrd
     cases hrd
   rw [hr0] at h
   exact ⟨f1,H1,h,fun _=>⟨rfl,.refl _⟩,.refl _⟩
  | some i =>
   have hir:=(hready i).1 (List.mem_of_getElem? hi)
   obtain ⟨hin,hed⟩:=hir
   obtain ⟨hisz,hil⟩:=(hmem i).1 hin
   obtain ⟨A,B,hAB⟩:=List.append_of_mem hin
   have ho:ops[i]? = some ops[i]:=by simp [hisz]
   simp only []
   rw [linearise_go_acc,List.reverse_singleton,List.singleton_append,List.filterMap_cons,ho]
   simp only
   rw [hAB,List.filterMap_append,List.filterMap_cons,ho] at h
   simp only at h
   have hpairs:∀ j ∈ A,∀ x,ops[j]? = some x -> a0T env ops sl x ops[i] = true /\ (a5f x = true -> U9 ops[i] = true):=by
    intro j hj x hjx
    rw [hAB,List.pairwise_append] at hpw
    have hp:=(hpw.2.2 j hj i (List.mem_cons_self ..)).1
    have hjr:j ∈ a0t S listed:=by rw [hAB]; exact List.mem_append_left _ hj
    obtain ⟨hjs,hjl⟩:=(hmem j).1 hjr
    unfold b1i at hp
    rw [hjx,ho] at hp
    simp only [Bool.or_eq_true,Bool.and_eq_true,Bool.not_eq_true'] at hp
    rcases hp with h2 | ⟨h2,h3⟩
    ·exfalso
     have h3:=a7H hM hc (i + 1) i j (Nat.lt_succ_self i) hisz hjs h2 (fun o e h4 h5 h6=>hed o h4 e h5 h6)
     rw [a9w h3] at hjl; cases hjl
    ·refine ⟨h2,fun hm=>?_⟩
     rcases h3 with h3 | h3
     ·rw [hm] at h3; cases h3
     ·exact h3
   have hcomm:∀ x ∈ A.filterMap (ops[·]?),a0T env ops sl x ops[i] = true:=by
    intro x hx
    rw [List.mem_filterMap] at hx
    obtain ⟨j,hj,hjx⟩:=hx
    exact (hpairs j hj x hjx).1
   have hrest':a0t S (listed.setIfInBounds i true) = A ++ B:=by
    have hne:(A ++ i :: B).filter (fun k=>k != i) = A ++ B:=by
     rw [hAB,List.nodup_append] at hnd
     obtain ⟨h1,h2,h3⟩:=hnd
     rw [List.nodup_cons] at h2
     rw [List.filter_append,List.filter_cons]
     simp only [bne_self_eq_false,Bool.false_eq_true,if_false]
     rw [List.filter_eq_self.2 fun x hx=>by simp; exact fun e=>h3 x hx i (List.mem_cons_self ..) e,List.filter_eq_self.2 fun x hx=>by simp; rintro rfl; exact h2.1 hx]
    rw [<- hne,<- hAB]
    simp only [a0t,List.filter_filter]
    refine List.filter_congr fun k hk=>?_
    have hk:=hlt k hk
    simp only [Array.getD_eq_getD_getElem?]
    by_cases hki:k = i
    ·subst hki
     rw [Array.getElem?_setIfInBounds_self_of_lt (by omega)]
     simp
    ·rw [Array.getElem?_setIfInBounds_ne (fun e=>hki e.symm)]
     simp [hki]
   have hc':a7m ops (listed.setIfInBounds i true):=by
    intro k o e hk ho' he hb
    have hmono:listed.getD e.on false = true -> (listed.setIfInBounds i true).getD e.on false = true:=by
     intro h9
     simp only [Array.getD_eq_getD_getElem?] at h9 ⊢
     by_cases hki:i = e.on
     ·subst hki; rw [Array.getElem?_setIfInBounds_self_of_lt (by omega)]; rfl
     ·rw [Array.getElem?_setIfInBounds_ne hki]; exact h9
    refine hmono ?_
    by_cases hki:i = k
    ·subst hki; exact hed o ho' e he hb
    ·refine hc k o e ?_ ho' he hb
     simp only [Array.getD_eq_getD_getElem?] at hk ⊢
     rw [Array.getElem?_setIfInBounds_ne hki] at hk; exact hk
   have hlen:(a0t S (listed.setIfInBounds i true)).length <= fuel:=by
    rw [hrest']
    rw [hAB] at hl
    simp only [List.length_append,List.length_cons] at hl ⊢; omega
   have hsub:∀ j ∈ A ++ B,j ∈ a0t S listed:=fun j hj=>by
    rw [hAB]
    rcases List.mem_append.1 hj with hj | hj
    ·exact List.mem_append_left _ hj
    ·exact List.mem_append_right _ (List.mem_cons_of_mem _ hj)
   rcases a0j.1 h with ⟨fA,HA,k1,k2⟩ | ⟨v,f,K,k1,k2⟩
   ·rcases H7.1 k2 with ⟨vy,Hy,k3,k4⟩ | ⟨v,K,k3,k4⟩
    ·obtain ⟨K,f',g1,g2,g3⟩:=b2I hcomm k1 k3
     obtain ⟨f2,g4,g5⟩:=a10 g3 k4
     have g6:u6 env orc L sl ops ((a0t S (listed.setIfInBounds i true)).filterMap (ops[·]?)) (K8 ops[i].dst vy fr) K = some (ex,f2,H1):=by
      rw [hrest',List.filterMap_append]
      exact a0j.2 (.inl ⟨_,_,g2,g4⟩)
     obtain ⟨f3,H3,q1,q2,q3⟩:=a7v hE hM hall hlt hP hal fuel (t / (Region.ready .any ops listed).length) _ _ _ _ _ _ (by simp [hsz]) hc' hlen g6 (fun v hv j hj o hjo hja=>by
      rw [hrest'] at hj
      exact hab v hv j (hsub j hj) o hjo hja)
     exact ⟨f3,H3,H7.2 (.inl ⟨_,_,g1,q1⟩),fun he=>⟨(q2 he).1,g5.trans (q2 he).2⟩,q3⟩
    ·simp only [Prod.mk.injEq] at k4
     obtain ⟨rfl,rfl,rfl⟩:=k4
     have hm:=b0B k3
     simp only [a5f,Bool.and_eq_true,Bool.not_eq_true'] at hm
     have g1:=b2J hm.1.1 hm.2 hcomm k1 k3
     exact ⟨fr,H1,H7.2 (.inr ⟨v,H1,g1,rfl⟩),(fun he=>by cases he),.refl _⟩
   ·simp only [Prod.mk.injEq] at k2
    obtain ⟨rfl,rfl,rfl⟩:=k2
    obtain ⟨x,hx,hxm⟩:=b25 k1
    rw [List.mem_filterMap] at hx
    obtain ⟨j,hj,hjx⟩:=hx
    have hay:=(hpairs j hj x hjx).2 hxm
    have hk1:=hab v rfl i hin _ ho hay
    have key:=fun (z:Obj) (u:V)=>a9f (z:=z) (u:=u) hay hcomm k1 hk1
    obtain ⟨q1,q2,_⟩:=key .gone .undef
    obtain ⟨u,z,g1⟩:=opVP_al (orc:=orc) (L:=L) (sl:=sl) (ops:=ops) (fr:=fr) hay (hal _ (by simp)) q1 q2
    obtain ⟨_,_,f2,g2⟩:=key z u
    have g6:u6 env orc L sl ops ((a0t S (listed.setIfInBounds i true)).filterMap (ops[·]?)) (K8 ops[i].dst u fr) (hset (newName ops[i]) z H) = some (.panic v,f2,hset (newName ops[i]) z H1):=by
     rw [hrest',List.filterMap_append]
     exact a0j.2 (.inr ⟨_,_,_,g2,rfl⟩)
    obtain ⟨f3,H3,p1,p2,p3⟩:=a7v hE hM hall hlt hP hal fuel (t / (Region.ready .any ops listed).length) _ _ _ _ _ _ (by simp [hsz]) hc' hlen g6 (fun v' hv j hj o hjo hja=>by
     rw [hrest'] at hj
     rw [l6,if_neg]
     ·exact hab v' hv j (hsub j hj) o hjo hja
     ·rw [hAB,List.pairwise_append,List.pairwise_cons] at hpw
      rcases List.mem_append.1 hj with hj | hj
      ·have:=(hpw.2.2 j hj i (List.mem_cons_self ..)).2.1
       unfold a6g at this
       rw [hjo,ho] at this
       simp only [hja,hay,Bool.and_self,Bool.not_true,Bool.false_or,Bool.not_eq_true'] at this
       intro he; rw [he] at this; simp at this
      ·have:=(hpw.2.1.1 j hj).2.1
       unfold a6g at this
       rw [hjo,ho] at this
       simp only [hja,hay,Bool.and_self,Bool.not_true,Bool.false_or,Bool.not_eq_true'] at this
       intro he; rw [he] at this; simp at this)
    exact ⟨f3,H3,H7.2 (.inl ⟨_,_,g1,p1⟩),(fun he=>by cases he),(a5Y hk1).trans p3⟩
theorem a9L:∀ (n:Nat) (S:List Nat),S.Nodup -> (∀ j ∈ S,j < n) -> S.length <= n
 | 0,[],_,_=>Nat.le_refl _
 | 0,a :: _,_,h=>by have:=h a (List.mem_cons_self ..); omega
 | n + 1,S,hn,h=>by
  have h1:=a9L n (S.erase n) (hn.erase n) (fun j hj=>by
   have hne:j ≠ n:=by rintro rfl; exact hn.not_mem_erase hj
   have:=h j (List.mem_of_mem_erase hj)
   omega)
  rw [List.length_erase] at h1
  split at h1 <;> omega
theorem a4A:∀ (S:List Nat),a1S ops S = S.filterMap (ops[·]?)
 | []=>rfl
 | i :: r=>by
  simp only [a1S,List.filterMap_cons]
  cases ops[i]? with
  | none=>exact a4A r
  | some o=>simp only [a4A r]
theorem a1G:∀ {l:List Oper} {o:Oper},o ∈ l -> U9 o = true -> newName o ∈ a0w l
 | [],o,h,_=>by cases h
 | a :: r,o,h,ha=>by
  simp only [a0w]
  rcases List.mem_cons.1 h with rfl | h
  ·rw [ha]; exact List.mem_cons_self ..
  ·cases U9 a with
   | true=>exact List.mem_cons_of_mem _ (a1G h ha)
   | false=>exact a1G h ha
theorem b0r {nr:Nat} {S:List Nat} {r:Res} (h:a0v env orc nr ops S sl fr H = some r):∃ L,(∃ f2 H2,u6 env orc L sl ops (a1S ops S) fr H = some (.normal,f2,H2) /\ r = (.normal,f2,H2)) ∨
  ∃ v f2 H2 v' H',u6 env orc L sl ops (a1S ops S) fr H = some (.panic v,f2,H2) /\ a99 (a0w ops.toList) H2 = true /\ finish nr v H2 = some (v',H') /\ r = (.panic v',[],H'):=by
 unfold a0v at h
 split at h
 ·cases h
 ·split at h
  ·cases h
  ·rename_i L _
   refine ⟨L,?_⟩
   split at h
   ·rename_i f2 H2 ho
    cases h
    exact .inl ⟨f2,H2,ho,rfl⟩
   ·rename_i v f2 H2 ho
    split at h
    ·rename_i v' H' ha hf
     cases h
     exact .inr ⟨v,f2,H2,v',H',ho,ha,hf,rfl⟩
    ·cases h
   ·cases h
end
end Go.Vm
namespace Go.Vm
section
variable {P:Program} {T:List (Nat × Ty)} {ρ ρ':Rho} {lab:Lab} {w:World} {H:Hp} {fr:Fr} {a:Act} {n nr:Nat} {env:Env} {orc:Orc} {ops:Array Oper}
def rest (ops:Array Oper) (listed:Array Bool):List Nat:=(List.range ops.size).filter fun i=>!listed.getD i true
def Closed (ops:Array Oper) (listed:Array Bool):Prop:=∀ (i:Nat) (o:Oper) (e:Edge),listed.getD i true = true -> ops[i]? = some o -> e ∈ o.after.toList -> Region.binds .any e = true -> listed.getD e.on false = true
theorem a5N {listed:Array Bool} (hsz:listed.size = ops.size) (hc:Closed ops listed):∀ (d i j:Nat),b0D ops d i j = true ->
  (∀ (o:Oper) (e:Edge),ops[i]? = some o -> e ∈ o.after.toList -> Region.binds .any e = true -> listed.getD e.on false = true) -> listed.getD j false = true
 | 0,_,_,h,_=>by cases h
 | d + 1,i,j,h,hi=>by
  simp only [b0D] at h
  cases ho:ops[i]? with
  | none=>rw [ho] at h; cases h
  | some o =>
   rw [ho] at h
   simp only [List.any_eq_true,Bool.and_eq_true,Bool.or_eq_true] at h
   obtain ⟨e,he,hb,h⟩:=h
   have hl:=hi o e ho he hb
   rcases h with h | h
   ·rw [Nat.eq_of_beq_eq_true h] at hl; exact hl
   ·refine a5N hsz hc d e.on j h (fun o' e' ho' he' hb'=>hc e.on o' e' ?_ ho' he' hb')
    simp only [Array.getD_eq_getD_getElem?] at hl ⊢
    cases hq:listed[e.on]? with
    | none=>rfl
    | some b=>rw [hq] at hl; exact hl
theorem b3r {A B:List Nat} {i:Nat} (hn:(A ++ i :: B).Nodup):(A ++ i :: B).filter (fun k=>k != i) = A ++ B:=by
 rw [List.nodup_append] at hn
 obtain ⟨h1,h2,h3⟩:=hn
 rw [List.nodup_cons] at h2
 rw [List.filter_append,List.filter_cons]
 simp only [bne_self_eq_false,Bool.false_eq_true,if_false]
 rw [List.filter_eq_self.2 fun x hx=>by simp; exact fun e=>h3 x hx i (List.mem_cons_self ..) e,List.filter_eq_self.2 fun x hx=>by simp; rintro rfl; exact h2.1 hx]
theorem lin_ok {b:Bool} (hE:a6k ops = true) (hP:b2l env ops b = true):∀ (fuel t:Nat) (listed:Array Bool) (fr:Fr) (H:Hp) (f1:Fr) (H1:Hp),listed.size = ops.size -> Closed ops listed -> (rest ops listed).length <= fuel ->
  (b = true -> Z5 f1 ((rest ops listed).filterMap (ops[·]?))) ->
  p8 env orc ops ((rest ops listed).filterMap (ops[·]?)) fr H = some (.normal,f1,H1) ->
  ∃ f2,p8 env orc ops ((Region.linearise.go .any ops fuel t listed []).filterMap (ops[·]?)) fr H = some (.normal,f2,H1) /\ a1Y f1 f2
 | 0,t,listed,fr,H,f1,H1,hsz,hc,hl,hC,h=>by
  have:rest ops listed = []:=by simpa using hl
  rw [this] at h
  simp only [Region.linearise.go,List.reverse_nil]
  exact ⟨f1,h,.refl _⟩
 | fuel + 1,t,listed,fr,H,f1,H1,hsz,hc,hl,hC,h=>by
  have hnd:(rest ops listed).Nodup:=List.Nodup.sublist List.filter_sublist List.nodup_range
  have hpw:(rest ops listed).Pairwise (· < ·):=List.Pairwise.sublist List.filter_sublist List.pairwise_lt_range
  have hmem:∀ j,j ∈ rest ops listed ↔ j < ops.size /\ listed.getD j true = false:=fun j=>by
   simp only [rest,List.mem_filter,List.mem_range,Bool.not_eq_true']
  have hready:∀ j,j ∈ Region.ready .any ops listed ↔ j ∈ rest ops listed /\ ∀ o,ops[j]? = some o -> ∀ e ∈ o.after.toList,Region.binds .any e = true -> listed.getD e.on false = true:=by
   intro j
   rw [hmem]
   simp only [Region.ready,List.mem_filter,List.mem_range,Bool.and_eq_true,Bool.not_eq_true',and_assoc]
   refine and_congr_right fun hj=>and_congr_right fun _=>?_
   have ho:ops[j]? = some ops[j]:=by simp [hj]
   rw [ho]
   simp only [Option.map_some,Option.getD_some,Array.all_eq_true_iff_forall_mem,Bool.or_eq_true,Bool.not_eq_true',Option.some.injEq]
   constructor
   ·rintro h1 o rfl e he hb
    rcases h1 e (by simpa using he) with h2 | h2
    ·rw [hb] at h2; cases h2
    ·exact h2
   ·intro h1 e he
    cases hb:Region.binds .any e with
    | false=>exact .inl rfl
    | true=>exact .inr (h1 _ rfl e (by simpa using he) hb)
  simp only [Region.linearise.go]
  change ∃ f2,p8 env orc ops ((match (Region.ready .any ops listed)[t % (Region.ready .any ops listed).length]? with
   | some i=>Region.linearise.go .any ops fuel (t / (Region.ready .any ops listed).length) (listed.setIfInBounds i true) [i]
   | none=>[].reverse).filterMap (ops[·]?)) fr H = some (.normal,f2,H1) /\ a1Y f1 f2
  cases hi:(Region.ready .any ops listed)[t % (Region.ready .any ops listed).length]? with
  | none =>
   have hnil:Region.ready .any ops listed = []:=by
    cases hr:Region.ready .any ops listed with
    | nil=>rfl
    | cons x xs =>
     rw [hr] at hi
     have hlt:t % (x :: xs).length < (x :: xs).length:=Nat.mod_lt _ (by simp)
     simp at hi
     simp at hlt
     omega
   have hr0:rest ops listed = []:=by
    cases hr:rest ops listed with
    | nil=>rfl
    | cons i0 xs =>
     have hin:i0 ∈ rest ops listed:=by rw [hr]; exact List.mem_cons_self ..
     have hrd:i0 ∈ Region.ready .any ops listed:=by
      refine (hready i0).2 ⟨hin,fun o ho e he hb=>?_⟩
      have hi0:=((hmem i0).1 hin).1
      have hlt:e.on < i0:=by
       simp only [a6k,List.all_eq_true,List.mem_range] at hE
       have:=hE i0 hi0
       rw [ho] at this
       simp only [List.all_eq_true,Bool.or_eq_true,Bool.not_eq_true'] at this
       rcases this e he with h2 | h2
       ·rw [hb] at h2; cases h2
       ·simpa [Nat.blt_eq] using h2
      have hon:e.on < ops.size:=by omega
      have hno:e.on ∉ rest ops listed:=by
       rw [hr] at hpw ⊢
       rw [List.pairwise_cons] at hpw
       simp only [List.mem_cons,not_or]
       exact ⟨by omega,fun h3=>by have:=hpw.1 _ h3; omega⟩
      rw [hmem] at hno
      have h4:listed.getD e.on true = true:=by
       cases hq:listed.getD e.on true with
       | true=>rfl
       | false=>exact absurd ⟨hon,hq⟩ hno
      simp only [Array.getD_eq_getD_getElem?] at h4 ⊢
      rw [Array.getElem?_eq_getElem (by omega)] at h4 ⊢
      exact h4
     rw [hnil] at hrd
     cases hrd
   rw [hr0] at h
   exact ⟨f1,h,.refl _⟩
  | some i =>
   have hir:=(hready i).1 (List.mem_of_getElem? hi)
   obtain ⟨hin,hed⟩:=hir
   obtain ⟨hisz,hil⟩:=(hmem i).1 hin
   obtain ⟨A,B,hAB⟩:=List.append_of_mem hin
   have ho:ops[i]? = some ops[i]:=by simp [hisz]
   simp only []
   rw [linearise_go_acc,List.reverse_singleton,List.singleton_append,List.filterMap_cons,ho]
   simp only
   rw [hAB,List.filterMap_append,List.filterMap_cons,ho] at h hC
   simp only at h hC
   have hcomm:∀ x ∈ A.filterMap (ops[·]?),a9m env ops b x ops[i] = true:=by
    intro x hx
    rw [List.mem_filterMap] at hx
    obtain ⟨j,hj,hjx⟩:=hx
    have hlt:j < i:=by
     rw [hAB,List.pairwise_append] at hpw
     exact hpw.2.2 j hj i (List.mem_cons_self ..)
    have hjr:j ∈ rest ops listed:=by rw [hAB]; exact List.mem_append_left _ hj
    have hjl:=((hmem j).1 hjr).2
    simp only [b2l,List.all_eq_true,List.mem_range] at hP
    have:=hP i hisz j hlt
    rw [hjx,ho] at this
    simp only [Bool.or_eq_true] at this
    rcases this with h2 | h2
    ·exact h2
    ·have h3:=a5N hsz hc 8 i j h2 (fun o e h4 h5 h6=>hed o h4 e h5 h6)
     simp only [Array.getD_eq_getD_getElem?] at h3 hjl
     have hjs:j < listed.size:=by omega
     rw [Array.getElem?_eq_getElem hjs] at h3 hjl
     simp at h3 hjl
     rw [h3] at hjl; cases hjl
   obtain ⟨f2,h5,h6⟩:=a9g hcomm hC h
   obtain ⟨v,H',h7,h8⟩:=J4.1 h5
   have hrest':rest ops (listed.setIfInBounds i true) = A ++ B:=by
    rw [<- b3r (A:=A) (B:=B) (i:=i) (by rw [<- hAB]; exact hnd),<- hAB]
    simp only [rest,List.filter_filter]
    refine List.filter_congr fun k hk=>?_
    rw [List.mem_range] at hk
    simp only [Array.getD_eq_getD_getElem?]
    by_cases hki:k = i
    ·subst hki
     rw [Array.getElem?_setIfInBounds_self_of_lt (by omega)]
     simp
    ·rw [Array.getElem?_setIfInBounds_ne (fun e=>hki e.symm)]
     simp [hki]
   rw [<- List.filterMap_append,<- hrest'] at h8
   have hc':Closed ops (listed.setIfInBounds i true):=by
    intro k o e hk ho' he hb
    have hmono:listed.getD e.on false = true -> (listed.setIfInBounds i true).getD e.on false = true:=by
     intro h9
     simp only [Array.getD_eq_getD_getElem?] at h9 ⊢
     by_cases hki:i = e.on
     ·subst hki; rw [Array.getElem?_setIfInBounds_self_of_lt (by omega)]; rfl
     ·rw [Array.getElem?_setIfInBounds_ne hki]; exact h9
    refine hmono ?_
    by_cases hki:i = k
    ·subst hki; exact hed o ho' e he hb
    ·refine hc k o e ?_ ho' he hb
     simp only [Array.getD_eq_getD_getElem?] at hk ⊢
     rw [Array.getElem?_setIfInBounds_ne hki] at hk; exact hk
   have hlen:(rest ops (listed.setIfInBounds i true)).length <= fuel:=by
    rw [hrest']
    rw [hAB] at hl
    simp only [List.length_append,List.length_cons] at hl ⊢; omega
   obtain ⟨f3,h9,h10⟩:=lin_ok hE hP fuel (t / (Region.ready .any ops listed).length) _ _ _ _ _ (by simp [hsz]) hc' hlen (fun hb=>by
    rw [hrest',List.filterMap_append]
    refine ((hC hb).congr h6).sub ?_
    exact List.Sublist.append_left (List.sublist_cons_self _ _) _) h8
   exact ⟨f3,J4.2 ⟨v,H',h7,h9⟩,h6.trans h10⟩
theorem a2w {α:Type}:∀ (l:List α) (g:Nat -> Option α) (k:Nat),(∀ j,g (k + j) = l[j]?) -> (List.range' k l.length).filterMap g = l
 | [],g,k,_=>rfl
 | x :: l,g,k,h=>by
  have h0:g k = some x:=by simpa using h 0
  rw [List.length_cons,List.range'_succ,List.filterMap_cons,h0]
  simp only
  rw [a2w l g (k + 1) (fun j=>by have:=h (j + 1); simpa [Nat.add_assoc,Nat.add_comm 1 j] using this)]
theorem a2k (ops:Array Oper):(List.range ops.size).filterMap (ops[·]?) = ops.toList:=by
 rw [List.range_eq_range',<- Array.length_toList]
 exact a2w ops.toList _ 0 (fun j=>by simp)
theorem a5a:∀ {l:List Oper} {fr:Fr} {H:Hp} {r:Res},p8 env orc ops l fr H = some r -> r.1 = .normal ∨ ∃ v,r.1 = .panic v
 | [],fr,H,r,h=>by simp only [p8] at h; cases h; exact .inl rfl
 | o :: l,fr,H,r,h=>by
  simp only [p8] at h
  split at h
  ·cases h
  ·exact a5a h
  ·split at h
   ·cases h
   ·exact a5a h
   ·cases h; exact .inr ⟨_,rfl⟩
theorem a9a {b:Bool} {r:Option Res} {x:Res} (h:a1g b ops r = some x):r = some x /\ (b = true -> ∃ fr H,x = (.normal,fr,H) /\ ((U1 ops.toList).all fun t=>a1K (look t fr)) = true):=by
 cases b with
 | false=>exact ⟨h,fun hb=>by cases hb⟩
 | true =>
  simp only [a1g] at h
  split at h
  ·rename_i f1 H1
   cases hc:(U1 ops.toList).all fun t=>a1K (look t f1) with
   | false=>rw [hc] at h; cases h
   | true=>rw [hc] at h; simp only [gd,Option.some.injEq] at h; subst h; exact ⟨rfl,fun _=>⟨_,_,rfl,hc⟩⟩
  ·cases h
def a0S (env:Env) (f nt:Nat):Code -> Bool
 | .region id ops d=>(ops.toList.all fun o=>match o.dst with | some d=>Nat.blt d nt | none=>true) && (match a5U env f id d with
  | some (S,sl)=>sepB env ops S sl (env.mask f id)
  | none=>!d || drawB env ops (env.loose f))
 | .seq a b=>a0S env f nt a && a0S env f nt b
 | .cond _ a b=>a0S env f nt a && a0S env f nt b
 | .block _ a=>a0S env f nt a
 | .loop a=>a0S env f nt a
 | _=>true
def a98 (env:Env) (k:Nat) (orc:Orc):Prop:=∀ f nr body fr H r,orc (.loop f nr body fr) H = some (.res r) -> ∀ ρ lab w a n nt,a0S env f nt body = true -> nt <= n -> Sim ρ lab H w -> FOk ρ lab w fr a n ->
 Code.rounds env.P body (Post nr n ρ lab w r) k a w
theorem Post.frEq {f1 f2:Fr} {ex:Ex} {e:Exit} {w':World} (h:a1Y f1 f2) (hp:Post nr n ρ lab w (ex,f2,H) e a w'):Post nr n ρ lab w (ex,f1,H) e a w':=by
 obtain ⟨ρ',lab',h1,h2,h3,h4,h5⟩:=hp
 refine ⟨ρ',lab',h1,h2,h3,h4,?_⟩
 have key:FOk ρ' lab' w' f2 a n -> FOk ρ' lab' w' f1 a n:=fun hf=>⟨fun t=>by rw [h t]; exact hf.rel t,hf.size,hf.defers⟩
 cases ex <;> cases e <;> first | exact h5.elim | exact key h5 | exact ⟨h5.1,key h5.2⟩ | exact h5
theorem b3L (hM:a2i env) (hT:TOk env.P env.T) (hm:env.P.follows .mixedOrders = true) (hO:a2h env.P orc) {id nt:Nat} {d:Bool} {r:Res} {f:Nat} (hB:a0S env f nt (.region id ops d) = true) (hn:nt <= n)
  (h:l5 env orc f nr (.region id ops d) fr H = some r) (hS:Sim ρ lab H w) (hF:FOk ρ lab w fr a n) {Q:Exit -> Act -> World -> Prop} (hQ:∀ e a' w',Post nr n ρ lab w r e a' w' -> Q e a' w') :
  (Code.region id ops d).wp env.P Q a w:=by
 simp only [a0S,Bool.and_eq_true] at hB
 obtain ⟨hB1,hB2⟩:=hB
 have hdst:∀ (i:Nat) (o:Oper) (dd:Nat),ops[i]? = some o -> o.dst = some dd -> dd < n:=by
  intro i o dd ho hd
  rw [List.all_eq_true] at hB1
  have:=hB1 o (by rw [<- Array.getElem?_toList] at ho; exact List.mem_of_getElem? ho)
  rw [hd] at this
  simp only [Nat.blt_eq] at this
  omega
 simp only [l5] at h
 cases hso:a5U env f id d with
 | some Ssl =>
  obtain ⟨S,sl⟩:=Ssl
  rw [hso] at h hB2
  simp only at h hB2
  have hd:d = true:=by
   cases d with
   | true=>rfl
   | false=>cases hso
  subst hd
  simp only [sepB,Bool.and_eq_true] at hB2
  obtain ⟨⟨⟨⟨⟨b1,b2⟩,b3⟩,b4⟩,b5⟩,b6⟩:=hB2
  rw [List.all_eq_true] at b4 b5 b6
  have hall:∀ j,j < ops.size -> j ∈ S:=fun j hj=>a4q.1 (b4 j (List.mem_range.2 hj))
  have hlt:∀ j,j ∈ S -> j < ops.size:=fun j hj=>by simpa [Nat.blt_eq] using b5 j hj
  refine wp_region_draw fun t=>?_
  simp only [Region.schedule,hm,Bool.true_or,if_true]
  have hr:a0t S (Array.replicate ops.size false) = S:=by
   refine List.filter_eq_self.2 fun i hi=>?_
   have:=hlt i hi
   simp [this]
  have hcl:a7m ops (Array.replicate ops.size false):=fun i o e hi ho=>by
   rcases Nat.lt_or_ge i ops.size with hlt | hge
   ·simp [hlt] at hi
   ·rw [Array.getElem?_eq_none hge] at ho; cases ho
  have hlen:(a0t S (Array.replicate ops.size false)).length <= ops.size:=by
   rw [hr]
   have hnd:S.Nodup:=(a2c b3).imp fun h=>h.2.2
   exact a9L _ _ hnd hlt
  have g:L6 w { w with drawn:=w.drawn + 1 }:=⟨Nat.le_refl _,rfl,rfl,rfl,fun _ _=>rfl⟩
  have E:=g.ext lab
  obtain ⟨L,⟨f1,H1,k1,rfl⟩ | ⟨v,f1,H1,v',H',k1,k2,k3,rfl⟩⟩:=b0r h
  ·rw [a4A,<- hr] at k1
   obtain ⟨f2,H2,k4,k5,_⟩:=a7v b1 b2 hall hlt (a2c b3) b6 ops.size t (Array.replicate ops.size false) fr H _ _ _ (by simp) hcl hlen k1 (fun v hv=>by cases hv)
   obtain ⟨rfl,k6⟩:=k5 rfl
   exact a3l hM hT hO hdst _ ρ lab _ H fr a _ (a1e k4) (hS.grew g) (hF.ext E (.refl _)) (fun e a' w' hp=>hQ e a' w' ((hp.trans E (Q7.of_le (.refl _) _)).frEq k6))
  ·rw [a4A,<- hr] at k1
   obtain ⟨f2,H2,k4,_,k6⟩:=a7v b1 b2 hall hlt (a2c b3) b6 ops.size t (Array.replicate ops.size false) fr H _ _ _ (by simp) hcl hlen k1 (fun v' hv i hi o ho ha=>by
    have:=List.all_eq_true.1 k2 (newName o) (a1G (by rw [<- Array.getElem?_toList] at ho; exact List.mem_of_getElem? ho) ha)
    cases hq:hget (newName o) H1 with
    | none=>rfl
    | some z=>rw [hq] at this; cases this)
   have k7:=b1U k6 k3
   refine a3l (nr:=nr) hM hT hO hdst _ ρ lab _ H fr a _ (a1e k4) (hS.grew g) (hF.ext E (.refl _)) (fun e a' w' hp=>hQ e a' w' ?_)
   have hp:=hp.trans E (Q7.of_le (.refl _) _)
   obtain ⟨ρ1,X5,q1,q2,q3,q4,q5⟩:=hp
   cases e with
   | panic ch =>
    obtain ⟨x,q6,q7⟩:=q5
    obtain ⟨ρ2,lab2,r1,r2,r3,r4,_⟩:=a9t q1 q7 k7
    exact ⟨ρ2,lab2,r1,q2.trans r2,q3.trans r3 (Nat.le_refl _),q4,x,q6,r4⟩
   | _=>exact q5.elim
 | none =>
 rw [hso] at h hB2
 simp only at h hB2
 cases d with
 | false =>
  refine wp_region ?_
  have h':p8 env orc ops ops.toList fr H = some r:=by
   simp only [Bool.false_and,a1g] at h
   split at h
   ·rename_i hq; rw [hq]; exact h
   ·exact h
  rw [<- a2k ops] at h'
  exact a3l hM hT hO hdst _ ρ lab w H fr a r h' hS hF hQ
 | true =>
  simp only [Bool.not_true,Bool.false_or,drawB,Bool.and_eq_true] at hB2
  simp only [Bool.true_and] at h
  obtain ⟨h,hchk⟩:=a9a h
  refine wp_region_draw fun t=>?_
  simp only [Region.schedule,hm,Bool.true_or,if_true]
  split at h
  ·cases h
  ·rename_i hno
   obtain ⟨ex,f1,H1⟩:=r
   rcases a5a h with h1 | ⟨v,h1⟩
   ·simp only at h1
    subst h1
    have hr:rest ops (Array.replicate ops.size false) = List.range ops.size:=by
     refine List.filter_eq_self.2 fun i hi=>?_
     rw [List.mem_range] at hi
     simp [hi]
    rw [<- a2k ops,<- hr] at h
    obtain ⟨f2,h2,h3⟩:=lin_ok hB2.1.1 hB2.1.2 ops.size t (Array.replicate ops.size false) fr H f1 H1 (by simp) (fun i o e hi ho=>by
     rcases Nat.lt_or_ge i ops.size with hlt | hge
     ·simp [hlt] at hi
     ·rw [Array.getElem?_eq_none hge] at ho; cases ho) (by rw [hr]; simp) (fun hb=>by
     rw [hr,a2k]
     obtain ⟨f',H',hx,hy⟩:=hchk hb
     cases hx
     have hs:=hB2.2
     rw [hb] at hs
     exact b28 (by simpa using hs) hy) h
    have g:L6 w { w with drawn:=w.drawn + 1 }:=⟨Nat.le_refl _,rfl,rfl,rfl,fun _ _=>rfl⟩
    have E:=g.ext lab
    refine a3l hM hT hO hdst _ ρ lab _ H fr a _ h2 (hS.grew g) (hF.ext E (.refl _)) (fun e a' w' hp=>hQ e a' w' ((hp.trans E (Q7.of_le (.refl _) _)).frEq h3))
   ·simp only at h1
    subst h1
    exact absurd h (hno v f1 H1)
theorem a4i {c:Code} {Q Q':Exit -> Act -> World -> Prop} (hq:∀ e a w,Q e a w -> Q' e a w):∀ (k:Nat) (a:Act) (w:World),Code.rounds P c Q k a w -> Code.rounds P c Q' k a w
 | 0,_,_,h=>h
 | k + 1,a,w,h=>by
  rw [rounds_succ] at h ⊢
  refine wp_mono h fun e a' w' he=>?_
  cases e <;> first | exact a4i hq k a' w' he | exact hq _ _ _ he
theorem b2M (hM:a2i env) (hT:TOk env.P env.T) (hm:env.P.follows .mixedOrders = true) (hO:a2h env.P orc) {k:Nat} (hL:a98 env k orc) {f nt:Nat}:∀ (c:Code) (ρ:Rho) (lab:Lab) (w:World) (H:Hp) (fr:Fr) (a:Act) (r:Res) (n:Nat),
  a0S env f nt c = true -> nt <= n -> l5 env orc f nr c fr H = some r -> Sim ρ lab H w -> FOk ρ lab w fr a n -> ∀ Q:Exit -> Act -> World -> Prop,(∀ e a' w',Post nr n ρ lab w r e a' w' -> Q e a' w') -> c.wp env.P Q a w:=by
 intro c
 induction c with
 | skip =>
  intro ρ lab w H fr a r n hB hn h hS hF Q hQ
  simp only [l5] at h; cases h
  exact wp_skip (hQ _ _ _ ⟨ρ,lab,hS,.refl _ _,Q7.of_le (.refl _) _,hF.defers,hF⟩)
 | label l =>
  intro ρ lab w H fr a r n hB hn h hS hF Q hQ
  simp only [l5] at h; cases h
  exact wp_label (hQ _ _ _ ⟨ρ,lab,hS,.refl _ _,Q7.of_le (.refl _) _,hF.defers,hF⟩)
 | exit i =>
  intro ρ lab w H fr a r n hB hn h hS hF Q hQ
  simp only [l5] at h; cases h
  exact wp_exit (hQ _ _ _ ⟨ρ,lab,hS,.refl _ _,Q7.of_le (.refl _) _,hF.defers,rfl,hF⟩)
 | ret =>
  intro ρ lab w H fr a r n hB hn h hS hF Q hQ
  simp only [l5] at h; cases h
  exact wp_ret (hQ _ _ _ ⟨ρ,lab,hS,.refl _ _,Q7.of_le (.refl _) _,hF.defers,hF⟩)
 | region id ops d =>
  intro ρ lab w H fr a r n hB hn h hS hF Q hQ
  exact b3L hM hT hm hO hB hn h hS hF hQ
 | seq x y ihx ihy =>
  intro ρ lab w H fr a r n hB hn h hS hF Q hQ
  simp only [a0S,Bool.and_eq_true] at hB
  simp only [l5] at h
  refine wp_seq ?_
  cases hx:l5 env orc f nr x fr H with
  | none=>rw [hx] at h; cases h
  | some r1 =>
   rw [hx] at h
   refine ihx ρ lab w H fr a r1 n hB.1 hn hx hS hF _ fun e a1 w1 hp=>?_
   obtain ⟨ex,fr1,H1⟩:=r1
   obtain ⟨ρ1,X5,h1,h2,h3,h4,h5⟩:=hp
   cases ex with
   | normal =>
    simp only at h h5
    cases e with
    | normal =>
     unfold cutAt at h
     cases hcu:env.cut f (a0o y) with
     | false =>
      rw [hcu] at h
      exact ihy ρ1 X5 w1 H1 fr1 a1 r n hB.2 hn h h1 h5 Q fun e a' w' hp=>hQ e a' w' (hp.trans h2 h3)
     | true =>
      rw [hcu] at h
      simp only at h
      split at h
      ·rename_i fr2 H2 hnm
       obtain ⟨ρ2,lab2,k1,k2,k3,k4⟩:=a6t h1 h5.rel hnm
       exact ihy ρ2 lab2 w1 H2 fr2 a1 r n hB.2 hn h k1 ⟨k4,h5.size,h5.defers⟩ Q fun e a' w' hp=>hQ e a' w' ((hp.trans k2 k3).trans h2 h3)
      ·cases h
    | _=>exact h5.elim
   | ret =>
    simp only [Option.some.injEq] at h h5
    subst h
    cases e with
    | ret=>exact hQ _ _ _ ⟨ρ1,X5,h1,h2,h3,h4,h5⟩
    | _=>exact h5.elim
   | exit i =>
    simp only [Option.some.injEq] at h h5
    subst h
    cases e with
    | exit j=>exact hQ _ _ _ ⟨ρ1,X5,h1,h2,h3,h4,h5⟩
    | _=>exact h5.elim
   | panic v =>
    simp only [Option.some.injEq] at h h5
    subst h
    cases e with
    | panic ch=>exact hQ _ _ _ ⟨ρ1,X5,h1,h2,h3,h4,h5⟩
    | _=>exact h5.elim
 | cond c x y ihx ihy =>
  intro ρ lab w H fr a r n hB hn h hS hF Q hQ
  simp only [a0S,Bool.and_eq_true] at hB
  simp only [l5] at h
  split at h
  ·rename_i t hc
   have hb:=K3 hF.rel hc
   generalize hcv:a.eval c = cv at hb
   cases hb
   split at h
   ·exact wp_cond_true hcv (ihx ρ lab w H fr a r n hB.1 hn h hS hF Q hQ)
   ·exact wp_cond_false hcv (ihy ρ lab w H fr a r n hB.2 hn h hS hF Q hQ)
  ·cases h
 | block id x ihx =>
  intro ρ lab w H fr a r n hB hn h hS hF Q hQ
  simp only [a0S] at hB
  simp only [l5] at h
  refine wp_block ?_
  cases hx:l5 env orc f nr x fr H with
  | none=>rw [hx] at h; cases h
  | some r1 =>
   rw [hx] at h
   refine ihx ρ lab w H fr a r1 n hB hn hx hS hF _ fun e a1 w1 hp=>?_
   obtain ⟨ex,fr1,H1⟩:=r1
   obtain ⟨ρ1,X5,h1,h2,h3,h4,h5⟩:=hp
   cases ex with
   | normal =>
    simp only [Option.some.injEq] at h h5
    subst h
    cases e with
    | normal=>exact hQ _ _ _ ⟨ρ1,X5,h1,h2,h3,h4,h5⟩
    | _=>exact h5.elim
   | ret =>
    simp only [Option.some.injEq] at h h5
    subst h
    cases e with
    | ret=>exact hQ _ _ _ ⟨ρ1,X5,h1,h2,h3,h4,h5⟩
    | _=>exact h5.elim
   | exit i =>
    simp only at h h5
    cases e with
    | exit j =>
     obtain ⟨rfl,h5⟩:=h5
     simp only [Exit.inBlock]
     cases hb:Nat.beq i id with
     | true =>
      rw [hb] at h
      simp only [Option.some.injEq] at h
      subst h
      rw [if_pos (Nat.eq_of_beq_eq_true hb)]
      exact hQ _ _ _ ⟨ρ1,X5,h1,h2,h3,h4,h5⟩
     | false =>
      rw [hb] at h
      simp only [Option.some.injEq] at h
      subst h
      rw [if_neg (by rintro rfl; simp at hb)]
      exact hQ _ _ _ ⟨ρ1,X5,h1,h2,h3,h4,rfl,h5⟩
    | _=>exact h5.elim
   | panic v =>
    simp only [Option.some.injEq] at h h5
    subst h
    cases e with
    | panic ch=>exact hQ _ _ _ ⟨ρ1,X5,h1,h2,h3,h4,h5⟩
    | _=>exact h5.elim
 | loop x ihx =>
  intro ρ lab w H fr a r n hB hn h hS hF Q hQ
  simp only [a0S] at hB
  simp only [l5] at h
  split at h
  ·rename_i fr1 H1 hnm
   split at h
   ·rename_i r1 ho
    cases h
    obtain ⟨ρ1,X5,k1,k2,k3,k4⟩:=a6t hS hF.rel hnm
    have:=hL f nr x fr1 H1 _ ho ρ1 X5 w a n nt hB hn k1 ⟨k4,hF.size,hF.defers⟩
    exact wp_loop_rounds k (a4i (fun e a' w' hp=>hQ e a' w' (hp.trans k2 k3)) k a w this)
   ·cases h
  ·cases h
 | _ =>
  intro ρ lab w H fr a r n hB hn h hS hF Q hQ
  simp only [l5] at h
  cases h
end
end Go.Vm
namespace Go.Vm
section
variable {P:Program} {T:List (Nat × Ty)} {ρ ρ':Rho} {lab:Lab} {w:World} {H:Hp} {fr:Fr} {a:Act} {n nr:Nat} {env:Env} {orc:Orc}
def a8x (tmps:Array Value):ResultVar -> Sem Value
 | .tmp t=>pure (tmps.getD t undef)
 | .cell a t=>do loadVar t (<- asAddr (tmps.getD a undef))
theorem resV_ok (hT:TOk P T) (hS:Sim ρ lab H w) {tmps:Array Value} (hF:Y6 ρ lab w fr tmps) {rv:ResultVar} {v:V} (h:a7k T fr H rv = some v):∃ z,(a8x tmps rv).run P w = .ok z w /\ Rel ρ lab w v z:=by
 cases rv with
 | tmp t=>simp only [a7k] at h; cases h; exact ⟨_,rfl,hF t⟩
 | cell c t =>
  simp only [a7k] at h
  have hx:=hF c
  obtain ⟨z,h1,h2⟩:=b1d hT hS hx h
  refine ⟨z,?_,h2⟩
  simp only [a8x]
  generalize hcv:tmps.getD c undef = cv at hx h1
  unfold Z4 at h
  split at h
  ·rename_i hl
   rw [hl] at hx
   cases hx
   exact h1
  ·rename_i hl
   rw [hl] at hx
   cases hx
   exact h1
  ·cases h
theorem mapM_ok (hT:TOk P T) (hS:Sim ρ lab H w) {tmps:Array Value} (hF:Y6 ρ lab w fr tmps):∀ {l:List ResultVar} {vs:List V},N7 (a7k T fr H) l = some vs -> ∃ xs,(l.mapM (a8x tmps)).run P w = .ok xs w /\ o8 ρ lab w vs xs
 | [],vs,h=>by simp only [N7] at h; cases h; exact ⟨[],rfl,a8w⟩
 | r :: l,vs,h=>by
  simp only [N7] at h
  split at h
  ·cases h
  ·rename_i v hv
   split at h
   ·cases h
   ·rename_i u hu
    cases h
    obtain ⟨z,h1,h2⟩:=resV_ok hT hS hF hv
    obtain ⟨xs,h3,h4⟩:=mapM_ok hT hS hF hu
    exact ⟨z :: xs,by simp only [List.mapM_cons,Sem.run_bind,h1,Result.andThen_ok,h3,Sem.run_pure],l9.2 ⟨z,xs,rfl,h2,h4⟩⟩
theorem b2t (hT:TOk P T) (hS:Sim ρ lab H w) {tmps:Array Value} (hF:Y6 ρ lab w fr tmps) {fn:Func} {v:V} (h:a09 T fr H fn.results.toList = some v):∃ z,(results fn tmps).run P w = .ok z w /\ Rel ρ lab w v z:=by
 have hr:(results fn tmps) = (do let vs <- fn.results.mapM (a8x tmps); pure (if h:vs.size = 1 then vs[0] else .tuple vs)):=by
  unfold results
  congr 1
 rw [hr]
 unfold a09 at h
 have key:∀ vs,N7 (a7k T fr H) fn.results.toList = some vs -> ∃ xs,(fn.results.mapM (a8x tmps)).run P w = .ok xs.toArray w /\ o8 ρ lab w vs xs:=by
  intro vs hvs
  obtain ⟨xs,h1,h2⟩:=mapM_ok hT hS hF hvs
  refine ⟨xs,?_,h2⟩
  rw [Array.mapM_eq_mapM_toList]
  simp only [map_eq_pure_bind,Sem.run_bind,h1,Result.andThen_ok,Sem.run_pure]
 split at h
 ·rename_i v' hvs
  cases h
  obtain ⟨xs,h1,h2⟩:=key _ hvs
  obtain ⟨x,xr,rfl,h3,h4⟩:=l9.1 h2
  have:xr = []:=by have:=h4.1; simpa using this
  subst this
  exact ⟨x,by simp [Sem.run_bind,h1,Result.andThen_ok],h3⟩
 ·rename_i vs hno hvs
  cases h
  obtain ⟨xs,h1,h2⟩:=key _ hvs
  refine ⟨.tuple xs.toArray,?_,.tuple vs xs h2.1 h2.2⟩
  have hsz:¬ xs.toArray.size = 1:=by
   intro hsz
   have hl:vs.length = 1:=by rw [<- h2.1]; simpa using hsz
   match vs,hl with
   | [v],_=>exact hno v rfl
  simp [Sem.run_bind,h1,Result.andThen_ok]
  intro h5
  exact absurd (by simpa using h5) hsz
 ·cases h
theorem a9F:∀ (args:List V) (k t:Nat),look t (U2 k args) = if k <= t then (args[t - k]?).getD .undef else .undef
 | [],k,t=>by simp [U2,look]
 | v :: r,k,t=>by
  simp only [U2]
  by_cases hk:k = t
  ·subst hk; rw [X3]; simp
  ·rw [O4 hk,a9F r (k + 1) t]
   by_cases h:k <= t
   ·rw [if_pos (by omega),if_pos h]
    have:t - k = t - (k + 1) + 1:=by omega
    rw [this,List.getElem?_cons_succ]
   ·rw [if_neg (by omega),if_neg h]
structure a6d (P:Program) (g:Nat) (h:List V -> Hp -> Option Out):Prop where
 call:∀ args H out,h args H = some out -> ∀ ρ lab w xs,Canon 0 H -> Sim ρ lab H w -> o8 ρ lab w args xs -> Calls P g xs.toArray w (a1F ρ lab H w out)
 known:∃ fn c,P.funcs[g]? = some fn /\ (fn.name == "runtime.NumGoroutine") = false /\ fn.body = some c
structure ViaOk (P:Program) (g:Nat) (pre:List V -> Hp -> Option (Nat × List V × Hp)) (post:List V -> Hp -> Out -> Option Out):Prop where
 call:∀ args H g' l H' o out,pre args H = some (g',l,H') -> post args H o = some out -> ∀ ρ lab w xs,Canon 0 H -> Sim ρ lab H w -> o8 ρ lab w args xs ->
  (∀ ρ lab w ys,Canon 0 H' -> Sim ρ lab H' w -> o8 ρ lab w l ys -> Calls P g' ys.toArray w (a1F ρ lab H' w o)) -> Calls P g xs.toArray w (a1F ρ lab H w out)
 known:∃ fn c,P.funcs[g]? = some fn /\ (fn.name == "runtime.NumGoroutine") = false /\ fn.body = some c
structure a1Z (env:Env):Prop where
 meth:a2i env
 T:TOk env.P env.T
 mixed:env.P.follows .mixedOrders = true
 code:∀ g fn c,env.ok g = true -> env.P.funcs[g]? = some fn -> fn.body = some c -> a0S env g fn.ntmps c = true /\ (fn.name == "runtime.NumGoroutine") = false
 intr:∀ g h,env.intr g = some (.plain h) -> a6d env.P g h
 via:∀ g pre post,env.intr g = some (.via pre post) -> ViaOk env.P g pre post
theorem a9c (hE:a1Z env) {g:Nat} {args:List V} {out:Out} (h:Y9 env orc g args H = some out):∃ fn c,env.P.funcs[g]? = some fn /\ (fn.name == "runtime.NumGoroutine") = false /\ fn.body = some c:=by
 unfold Y9 at h
 split at h
 ·rename_i fn hf hok
  split at h
  ·cases h
  ·rename_i c hb
   exact ⟨fn,c,hf,(hE.code g fn c hok hf hb).2,hb⟩
 ·cases h
theorem b2u (hE:a1Z env) {k:Nat} (hO:a2h env.P orc) (hL:a98 env k orc) {g:Nat} {args:List V} {out:Out} {xs:List Value} (h:Y9 env orc g args H = some out)
    (hc:Canon 0 H) (hS:Sim ρ lab H w) (hx:o8 ρ lab w args xs) :
    Calls env.P g xs.toArray w (a1F ρ lab H w out) /\ ∃ fn c,env.P.funcs[g]? = some fn /\ (fn.name == "runtime.NumGoroutine") = false /\ fn.body = some c:=by
  unfold Y9 at h
  split at h
  · rename_i fn hf hok
    split at h
    · cases h
    · rename_i c hb
      obtain ⟨hB,hN⟩:=hE.code g fn c hok hf hb
      refine ⟨calls_of_wp hf hb ?_,fn,c,hf,hN,hb⟩
      have hF:FOk ρ lab w (U2 0 args) { tmps:=xs.toArray ++ Array.replicate (fn.ntmps - xs.toArray.size) undef,defers:=[] } (xs.toArray ++ Array.replicate (fn.ntmps - xs.toArray.size) undef).size:=by
        refine ⟨fun t=>?_,rfl,rfl⟩
        rw [a9F,if_pos (Nat.zero_le _),Nat.sub_zero]
        cases hv:args[t]? with
        | none=>exact .undef _
        | some v =>
          have hlt:t < xs.length:=by
            rw [hx.1]
            rcases Nat.lt_or_ge t args.length with h1 | h1
            · exact h1
            · rw [List.getElem?_eq_none h1] at hv; cases hv
          have h2:(xs.toArray ++ Array.replicate (fn.ntmps - xs.toArray.size) undef).getD t undef = xs[t]:=by
            rw [Array.getD_eq_getD_getElem?,Array.getElem?_append_left (by simpa using hlt)]
            simp [hlt]
          simp only [Option.getD_some]
          rw [h2]
          exact hx.2 t v xs[t] hv (by simp [hlt])
      have hn:fn.ntmps <= (xs.toArray ++ Array.replicate (fn.ntmps - xs.toArray.size) undef).size:=by simp; omega
      cases hev:l5 env orc g H.length c (U2 0 args) H with
      | none=>rw [hev] at h; cases h
      | some r =>
        rw [hev] at h
        refine b2M hE.meth hE.T hE.mixed hO hL c ρ lab w H _ _ r _ hB hn hev hS hF _ fun e a' w' hp=>?_
        obtain ⟨ex,fr',H1⟩:=r
        obtain ⟨ρ1,X5,h1,h2,h3,h4,h5⟩:=hp
        have fin0:∀ {X5 H1 v x v2 H2},Ext lab w X5 w' -> Sim ρ1 X5 H1 w' -> Rel ρ1 X5 w' v x -> finish H.length v H1 = some (v2,H2) -> Done ρ lab H w (V6 (env.tags g) v2 H2).1 (V6 (env.tags g) v2 H2).2 x w':=by
          intro X5 H1 v x v2 H2 h2 h1 hv hfi
          obtain ⟨ρ2,lab2,k1,k2,k3,k4,k5,k6⟩:=a9t h1 hv hfi
          obtain ⟨ρ3,m1,m2,m3,m4,m5⟩:=b31 (b:=env.tags g) k5 k1 k4
          exact ⟨ρ3,lab2,m2,h2.trans k2,(h3.trans k3 (Nat.le_refl _)).trans (Q7.of_le m1 _) (Nat.le_refl _),m3,m4,Nat.le_trans k6 m5⟩
        have fin:∀ {v x v2 H2},Rel ρ1 X5 w' v x -> finish H.length v H1 = some (v2,H2) -> Done ρ lab H w (V6 (env.tags g) v2 H2).1 (V6 (env.tags g) v2 H2).2 x w':=fun hv hfi=>fin0 h2 h1 hv hfi
        have res:∀ {out':Out},FOk ρ1 X5 w' fr' a' (xs.toArray ++ Array.replicate (fn.ntmps - xs.toArray.size) undef).size ->
            (match a09 env.T fr' H1 fn.results.toList with
              | some v=>match finish H.length (match env.tags g with | true=>a8e (env.a4I g) (a5b (env.frz g) v H1).1 | false=>a8F (a5b (env.frz g) v H1).1) (a5b (env.frz g) v H1).2 with
                | some (v,H2)=>some (Out.ret (V6 (env.tags g) v H2).1 (V6 (env.tags g) v H2).2)
                | none=>none
              | none=>none) = some out' -> ∃ x,(results fn a'.tmps).run env.P w' = .ok x w' /\ a1F ρ lab H w out' (.returned x) w':=by
          intro out' hf' h
          split at h
          · rename_i v hv
            split at h
            · rename_i v2 H2 hfi
              cases h
              obtain ⟨x,g1,g2⟩:=b2t hE.T h1 hf'.rel hv
              obtain ⟨l3,q1,q2,q3⟩:=frzD_ok (b:=env.frz g) h1 g2
              refine ⟨x,g1,fin0 (h2.trans q1) q2 ?_ hfi⟩
              split
              · exact q3.a8e
              · exact q3.a8F
            · cases h
          · cases h
        cases ex with
        | normal =>
          cases e with
          | normal=>exact ⟨h4,res h5 h⟩
          | _=>exact h5.elim
        | ret =>
          cases e with
          | ret=>exact ⟨h4,res h5 h⟩
          | _=>exact h5.elim
        | exit i=>cases h
        | panic v =>
          cases e with
          | panic ch =>
            obtain ⟨x,rfl,hx'⟩:=h5
            simp only at h
            split at h
            · rename_i v2 H2 hfi
              cases h
              exact ⟨h4,x,rfl,fin hx' hfi⟩
            · cases h
          | _=>exact h5.elim
  · cases h
theorem b2v (hE:a1Z env) {k:Nat} (hO:a2h env.P orc) (hL:a98 env k orc) {f nr nt:Nat} {body:Code} {r:Res} (h:a1a env orc f nr body fr H = some (.res r)) (hB:a0S env f nt body = true) (hn:nt <= n)
  (hS:Sim ρ lab H w) (hF:FOk ρ lab w fr a n):Code.rounds env.P body (Post nr n ρ lab w r) (k + 1) a w:=by
 rw [rounds_succ]
 unfold a1a at h
 cases hev:l5 env orc f nr body fr H with
 | none=>rw [hev] at h; cases h
 | some r1 =>
  rw [hev] at h
  refine b2M hE.meth hE.T hE.mixed hO hL body ρ lab w H fr a r1 n hB hn hev hS hF _ fun e a' w' hp=>?_
  obtain ⟨ex,fr',H1⟩:=r1
  have hp':=hp
  obtain ⟨ρ1,X5,h1,h2,h3,h4,h5⟩:=hp
  cases ex with
  | normal =>
   simp only at h
   cases e with
   | normal =>
    split at h
    ·rename_i fr2 H2 hnm
     obtain ⟨ρ2,lab2,k1,k2,k3,k4⟩:=a6t h1 h5.rel hnm
     have h6:FOk ρ2 lab2 w' fr2 a' n:=⟨k4,h5.size,h4⟩
     exact a4i (fun e a w hp=>(hp.trans k2 k3).trans h2 h3) k a' w' (hL f nr body fr2 H2 r h ρ2 lab2 w' a' n nt hB hn k1 h6)
    ·cases h
   | _=>exact h5.elim
  | ret =>
   cases h
   cases e with
   | ret=>exact hp'
   | _=>exact h5.elim
  | exit i =>
   cases h
   cases e with
   | exit j=>exact hp'
   | _=>exact h5.elim
  | panic v =>
   cases h
   cases e with
   | panic ch=>exact hp'
   | _=>exact h5.elim
theorem a8A (hE:a1Z env):∀ k,a2h env.P (run env k) /\ a98 env k (run env k)
 | 0=>⟨⟨fun g args H out h=>(by cases h),fun g args H out h=>(by cases h)⟩,fun f nr body fr H r h=>(by cases h)⟩
 | k + 1=>by
  obtain ⟨hO,hL⟩:=a8A hE k
  refine ⟨⟨fun g args H out h ρ lab w xs hc hS hx=>?_,fun g args H out h=>?_⟩,fun f nr body fr H r h ρ lab w a n nt hB hn hS hF=>b2v hE hO hL h hB hn hS hF⟩
  ·simp only [run,step] at h
   split at h
   ·rename_i hh hi
    exact (hE.intr g hh hi).call args H out h ρ lab w xs hc hS hx
   ·rename_i pre post hi
    split at h
    ·rename_i g' l H' hp
     split at h
     ·rename_i o ho
      exact (hE.via g pre post hi).call args H g' l H' o out hp h ρ lab w xs hc hS hx (fun ρ lab w ys hc2 hS2 hy=>hO.call g' l H' o ho ρ lab w ys hc2 hS2 hy)
     ·cases h
    ·cases h
   ·exact (b2u hE hO hL h hc hS hx).1
  ·simp only [run,step] at h
   split at h
   ·rename_i hh hi
    exact (hE.intr g hh hi).known
   ·rename_i pre post hi
    exact (hE.via g pre post hi).known
   ·exact a9c hE h
end
end Go.Vm
namespace Go.Vm
section
variable {env:Env} {orc orc':Orc}
def OLe (a b:Orc):Prop:=∀ t H o,a t H = some o -> b t H = some o
structure Chain (c:Nat -> Orc) (e:Orc):Prop where
 le:∀ k,OLe (c k) e
 up:∀ k,OLe (c k) (c (k + 1))
 at_:∀ t H o,e t H = some o -> ∃ k,c k t H = some o
theorem Chain.mono {c:Nat -> Orc} {e:Orc} (h:Chain c e):∀ {j k:Nat},j <= k -> OLe (c j) (c k):=by
 intro j k hjk
 induction hjk with
 | refl=>exact fun _ _ _ h=>h
 | step _ ih=>exact fun t H o ho=>h.up _ t H o (ih t H o ho)
theorem a4S (h:OLe orc orc') {g:Nat} {args:List V} {H:Hp} {r:OpR} (hr:O3 orc g args H = some r):O3 orc' g args H = some r:=by
 unfold O3 at hr ⊢
 split at hr
 ·cases hr
 ·split at hr
  ·rename_i ho
   rw [h _ _ _ ho]
   exact hr
  ·cases hr
theorem a1u (h:OLe orc orc') {k g:Nat} {args:List V} {H:Hp} {r:OpR} (hr:H9 env orc k g args H = some r):H9 env orc' k g args H = some r:=by
 unfold H9 at hr ⊢
 split at hr
 ·rename_i hq
  exact a4S h hr
 ·simp only at hr ⊢
  split at hr
  ·split at hr
   ·rename_i ho
    rw [h _ _ _ ho]
    exact hr
   ·rename_i ho
    rw [h _ _ _ ho]
    exact hr
   ·cases hr
  ·cases hr
theorem b1L (h:OLe orc orc') {k g:Nat} {args:List V} {H:Hp} {r:OpR} (hr:P7 env orc k g args H = some r):P7 env orc' k g args H = some r:=by
 unfold P7 at hr ⊢
 split at hr
 ·exact a4S h hr
 ·split at hr
  ·exact a1u h hr
  ·split at hr
   ·rename_i ho
    rw [a1u h ho]
    exact hr
   ·cases hr
theorem b2j (h:OLe orc orc') {fr:Fr} {H:Hp} {o:Oper} {r:OpR} (hr:H8 env orc fr H o = some r):H8 env orc' fr H o = some r:=by
  unfold H8 at hr ⊢
  split at hr <;> first
    | exact hr
    | (split at hr
       · first
         | exact b1L h hr
         | exact a1u h hr
         | (split at hr
            · exact a1u h hr
            · cases hr)
       · cases hr)
theorem a2b (h:OLe orc orc') {fr:Fr} {H:Hp} {o:Oper} {r:OpR} (hr:D5 env orc fr H o = some r):D5 env orc' fr H o = some r:=by
 unfold D5 at hr ⊢
 split at hr
 ·exact hr
 ·exact b2j h hr
theorem a0i (h:OLe orc orc') {ops:Array Oper}:∀ {l:List Oper} {fr:Fr} {H:Hp} {r:Res},p8 env orc ops l fr H = some r -> p8 env orc' ops l fr H = some r
 | [],fr,H,r,hr=>hr
 | o :: l,fr,H,r,hr=>by
  simp only [p8] at hr ⊢
  cases hw:o6 ops o fr with
  | none=>rw [hw] at hr; cases hr
  | some b =>
   rw [hw] at hr
   cases b with
   | false=>exact a0i h hr
   | true =>
    simp only at hr ⊢
    cases ho:D5 env orc fr H o with
    | none=>rw [ho] at hr; cases hr
    | some x =>
     rw [ho] at hr
     rw [a2b h ho]
     cases x with
     | val v H1=>exact a0i h hr
     | pan v H1=>exact hr
theorem a0q (h:OLe orc orc') {L sl:List Nat} {ops:Array Oper}:∀ {l:List Oper} {fr:Fr} {H:Hp} {r:Res},u6 env orc L sl ops l fr H = some r -> u6 env orc' L sl ops l fr H = some r
 | [],fr,H,r,hr=>hr
 | o :: l,fr,H,r,hr=>by
  simp only [u6] at hr ⊢
  cases hw:o6 ops o fr with
  | none=>rw [hw] at hr; cases hr
  | some b =>
   rw [hw] at hr
   cases b with
   | false=>exact a0q h hr
   | true =>
    simp only at hr ⊢
    cases hp:R9 env L sl fr H o with
    | false=>rw [hp] at hr; cases hr
    | true =>
    rw [hp] at hr
    simp only at hr ⊢
    cases ho:D5 env orc fr H o with
    | none=>rw [ho] at hr; cases hr
    | some x =>
     rw [ho] at hr
     rw [a2b h ho]
     cases x with
     | val v H1=>exact a0q h hr
     | pan v H1=>exact hr
theorem b0q (h:OLe orc orc') {nr:Nat} {S sl:List Nat} {ops:Array Oper} {fr:Fr} {H:Hp} {r:Res} (hr:a0v env orc nr ops S sl fr H = some r):a0v env orc' nr ops S sl fr H = some r:=by
 unfold a0v at hr ⊢
 split at hr
 ·cases hr
 ·rename_i ho
  rw [a0i h ho]
  simp only
  split at hr
  ·cases hr
  ·cases hq:u6 env orc _ sl ops (a1S ops S) fr H with
   | none=>rw [hq] at hr; cases hr
   | some x=>rw [hq] at hr; rw [a0q h hq]; exact hr
theorem a0p (h:OLe orc orc') {f nr:Nat}:∀ {c:Code} {fr:Fr} {H:Hp} {r:Res},l5 env orc f nr c fr H = some r -> l5 env orc' f nr c fr H = some r:=by
 intro c
 induction c with
 | region id ops d =>
  intro fr H r hr
  simp only [l5] at hr ⊢
  split at hr
  ·exact b0q h hr
  ·cases ho:p8 env orc ops ops.toList fr H with
   | none =>
    rw [ho] at hr
    cases hd:(d && env.loose f) <;> rw [hd] at hr <;> cases hr
   | some x=>rw [ho] at hr; rw [a0i h ho]; exact hr
 | seq a b iha ihb =>
  intro fr H r hr
  simp only [l5] at hr ⊢
  cases ho:l5 env orc f nr a fr H with
  | none=>rw [ho] at hr; cases hr
  | some x =>
   rw [ho] at hr; rw [iha ho]
   obtain ⟨e,fr1,H1⟩:=x
   cases e with
   | normal =>
    simp only at hr ⊢
    split at hr
    ·exact ihb hr
    ·cases hr
   | _=>exact hr
 | cond c a b iha ihb =>
  intro fr H r hr
  simp only [l5] at hr ⊢
  split at hr
  ·split at hr
   ·exact iha hr
   ·exact ihb hr
  ·cases hr
 | block id a iha =>
  intro fr H r hr
  simp only [l5] at hr ⊢
  cases ho:l5 env orc f nr a fr H with
  | none=>rw [ho] at hr; cases hr
  | some x=>rw [ho] at hr; rw [iha ho]; exact hr
 | loop a iha =>
  intro fr H r hr
  simp only [l5] at hr ⊢
  split at hr
  ·split at hr
   ·rename_i ho
    rw [h _ _ _ ho]
    exact hr
   ·cases hr
  ·cases hr
 | _=>exact fun hr=>hr
theorem b3X (h:OLe orc orc'):OLe (step env orc) (step env orc'):=by
 intro t H o hr
 cases t with
 | call g args =>
  simp only [step] at hr ⊢
  split at hr
  ·exact hr
  ·split at hr
   ·rename_i hp
    split at hr
    ·rename_i ho
     rw [h _ _ _ ho]
     exact hr
    ·cases hr
   ·cases hr
  ·unfold Y9 at hr ⊢
   split at hr
   ·split at hr
    ·cases hr
    ·rename_i hb
     try simp only
     cases ho:l5 env orc g H.length _ (U2 0 args) H with
     | none=>rw [ho] at hr; cases hr
     | some x=>rw [ho] at hr; rw [a0p h ho]; exact hr
   ·cases hr
 | loop f nr body fr =>
  simp only [step,a1a] at hr ⊢
  cases ho:l5 env orc f nr body fr H with
  | none=>rw [ho] at hr; cases hr
  | some x =>
   rw [ho] at hr; rw [a0p h ho]
   obtain ⟨e,fr1,H1⟩:=x
   cases e with
   | normal =>
    simp only at hr ⊢
    split at hr
    ·exact h _ _ _ hr
    ·cases hr
   | _=>exact hr
theorem run_up (env:Env):∀ k,OLe (run env k) (run env (k + 1))
 | 0=>fun t H o h=>by cases h
 | k + 1=>b3X (run_up env k)
open Classical in
noncomputable def E (env:Env):Orc:=fun t H=>if h:∃ k o,run env k t H = some o then some (Classical.choose (Classical.choose_spec h)) else none
theorem T9 (env:Env):Chain (run env) (E env):=by
 have up:=run_up env
 have mono:∀ {j k:Nat},j <= k -> OLe (run env j) (run env k):=by
  intro j k hjk
  induction hjk with
  | refl=>exact fun _ _ _ h=>h
  | step _ ih=>exact fun t H o ho=>up _ t H o (ih t H o ho)
 have fn:∀ {j k t H o o'},run env j t H = some o -> run env k t H = some o' -> o = o':=by
  intro j k t H o o' h1 h2
  have h3:=mono (Nat.le_max_left j k) t H o h1
  have h4:=mono (Nat.le_max_right j k) t H o' h2
  rw [h3] at h4; cases h4; rfl
 refine ⟨fun k t H o h=>?_,up,fun t H o h=>?_⟩
 ·have hex:∃ k o,run env k t H = some o:=⟨k,o,h⟩
  unfold E
  rw [dif_pos hex]
  have:=Classical.choose_spec (Classical.choose_spec hex)
  rw [fn this h]
 ·unfold E at h
  split at h
  ·rename_i hex
   cases h
   exact ⟨_,Classical.choose_spec (Classical.choose_spec hex)⟩
  ·cases h
section
variable {c:Nat -> Orc} {e:Orc}
theorem a4R (h:Chain c e) {g:Nat} {args:List V} {H:Hp} {r:OpR} (hr:O3 e g args H = some r):∃ k,O3 (c k) g args H = some r:=by
 unfold O3 at hr ⊢
 split at hr
 ·cases hr
 ·split at hr
  ·rename_i ho
   obtain ⟨k,hk⟩:=h.at_ _ _ _ ho
   exact ⟨k,by rw [hk]; exact hr⟩
  ·cases hr
theorem a1t (h:Chain c e) {m g:Nat} {args:List V} {H:Hp} {r:OpR} (hr:H9 env e m g args H = some r):∃ k,H9 env (c k) m g args H = some r:=by
 unfold H9 at hr ⊢
 split at hr
 ·rename_i hq
  try simp only [hq]
  exact a4R h hr
 ·rename_i hq
  simp only [hq] at hr ⊢
  split at hr
  ·split at hr
   ·rename_i ho
    obtain ⟨k,hk⟩:=h.at_ _ _ _ ho
    exact ⟨k,by rw [hk]; exact hr⟩
   ·rename_i ho
    obtain ⟨k,hk⟩:=h.at_ _ _ _ ho
    exact ⟨k,by rw [hk]; exact hr⟩
   ·cases hr
  ·cases hr
theorem b1J (h:Chain c e) {m g:Nat} {args:List V} {H:Hp} {r:OpR} (hr:P7 env e m g args H = some r):∃ k,P7 env (c k) m g args H = some r:=by
 cases hq:env.quiet g with
 | true =>
  simp only [P7,hq] at hr ⊢
  exact a4R h hr
 | false=>cases hl:env.look g with
  | false =>
   simp only [P7,hq,hl] at hr ⊢
   exact a1t h hr
  | true =>
   simp only [P7,hq,hl] at hr ⊢
   cases ho:H9 env e m g args H with
   | none=>rw [ho] at hr; cases hr
   | some r0 =>
    rw [ho] at hr
    obtain ⟨k,hk⟩:=a1t h ho
    exact ⟨k,by rw [hk]; exact hr⟩
theorem b2i (h:Chain c e) {fr:Fr} {H:Hp} {o:Oper} {r:OpR} (hr:H8 env e fr H o = some r):∃ k,H8 env (c k) fr H o = some r:=by
  unfold H8 at hr ⊢
  split at hr <;> first
    | exact ⟨0,hr⟩
    | (split at hr
       · first
         | exact b1J h hr
         | exact a1t h hr
         | (split at hr
            · exact a1t h hr
            · cases hr)
       · cases hr)
theorem a6V (h:Chain c e) {fr:Fr} {H:Hp} {o:Oper} {r:OpR} (hr:D5 env e fr H o = some r):∃ k,D5 env (c k) fr H o = some r:=by
 unfold D5 at hr ⊢
 split at hr
 ·exact ⟨0,hr⟩
 ·exact b2i h hr
theorem a1x (h:Chain c e) {ops:Array Oper}:∀ {l:List Oper} {fr:Fr} {H:Hp} {r:Res},p8 env e ops l fr H = some r -> ∃ k,p8 env (c k) ops l fr H = some r
 | [],fr,H,r,hr=>⟨0,hr⟩
 | o :: l,fr,H,r,hr=>by
  simp only [p8] at hr ⊢
  cases hw:o6 ops o fr with
  | none=>rw [hw] at hr; cases hr
  | some b =>
   rw [hw] at hr
   cases b with
   | false=>exact a1x h hr
   | true =>
    simp only at hr ⊢
    cases ho:D5 env e fr H o with
    | none=>rw [ho] at hr; cases hr
    | some x =>
     rw [ho] at hr
     obtain ⟨k,hk⟩:=a6V h ho
     cases x with
     | val v H1 =>
      obtain ⟨j,hj⟩:=a1x h hr
      refine ⟨max k j,?_⟩
      rw [a2b (h.mono (Nat.le_max_left k j)) hk]
      exact a0i (h.mono (Nat.le_max_right k j)) hj
     | pan v H1=>exact ⟨k,by rw [hk]; exact hr⟩
theorem a2j (h:Chain c e) {L sl:List Nat} {ops:Array Oper}:∀ {l:List Oper} {fr:Fr} {H:Hp} {r:Res},u6 env e L sl ops l fr H = some r -> ∃ k,u6 env (c k) L sl ops l fr H = some r
 | [],fr,H,r,hr=>⟨0,hr⟩
 | o :: l,fr,H,r,hr=>by
  simp only [u6] at hr ⊢
  cases hw:o6 ops o fr with
  | none=>rw [hw] at hr; cases hr
  | some b =>
   rw [hw] at hr
   cases b with
   | false=>exact a2j h hr
   | true =>
    simp only at hr ⊢
    cases hp:R9 env L sl fr H o with
    | false=>rw [hp] at hr; cases hr
    | true =>
    rw [hp] at hr
    simp only at hr ⊢
    cases ho:D5 env e fr H o with
    | none=>rw [ho] at hr; cases hr
    | some x =>
     rw [ho] at hr
     obtain ⟨k,hk⟩:=a6V h ho
     cases x with
     | val v H1 =>
      obtain ⟨j,hj⟩:=a2j h hr
      refine ⟨max k j,?_⟩
      rw [a2b (h.mono (Nat.le_max_left k j)) hk]
      exact a0q (h.mono (Nat.le_max_right k j)) hj
     | pan v H1=>exact ⟨k,by rw [hk]; exact hr⟩
theorem b0p (h:Chain c e) {nr:Nat} {S sl:List Nat} {ops:Array Oper} {fr:Fr} {H:Hp} {r:Res} (hr:a0v env e nr ops S sl fr H = some r):∃ k,a0v env (c k) nr ops S sl fr H = some r:=by
 unfold a0v at hr
 split at hr
 ·cases hr
 ·rename_i ho
  obtain ⟨k,hk⟩:=a1x h ho
  split at hr
  ·cases hr
  ·rename_i hL
   cases hq:u6 env e _ sl ops (a1S ops S) fr H with
   | none=>rw [hq] at hr; cases hr
   | some x =>
    rw [hq] at hr
    obtain ⟨j,hj⟩:=a2j h hq
    refine ⟨max k j,?_⟩
    unfold a0v
    rw [a0i (h.mono (Nat.le_max_left k j)) hk]
    simp only [hL]
    rw [a0q (h.mono (Nat.le_max_right k j)) hj]
    exact hr
theorem a4N (h:Chain c e) {f nr:Nat}:∀ {d:Code} {fr:Fr} {H:Hp} {r:Res},l5 env e f nr d fr H = some r -> ∃ k,l5 env (c k) f nr d fr H = some r:=by
 intro d
 induction d with
 | region id ops d =>
  intro fr H r hr
  simp only [l5] at hr ⊢
  split at hr
  ·exact b0p h hr
  ·cases ho:p8 env e ops ops.toList fr H with
   | none =>
    rw [ho] at hr
    cases hd:(d && env.loose f) <;> rw [hd] at hr <;> cases hr
   | some x=>rw [ho] at hr; obtain ⟨k,hk⟩:=a1x h ho; exact ⟨k,by rw [hk]; exact hr⟩
 | seq a b iha ihb =>
  intro fr H r hr
  simp only [l5] at hr ⊢
  cases ho:l5 env e f nr a fr H with
  | none=>rw [ho] at hr; cases hr
  | some x =>
   rw [ho] at hr
   obtain ⟨k,hk⟩:=iha ho
   obtain ⟨ex,fr1,H1⟩:=x
   cases ex with
   | normal =>
    simp only at hr ⊢
    split at hr
    ·rename_i hcu
     obtain ⟨j,hj⟩:=ihb hr
     refine ⟨max k j,?_⟩
     rw [a0p (h.mono (Nat.le_max_left k j)) hk]
     simp only [hcu]
     exact a0p (h.mono (Nat.le_max_right k j)) hj
    ·cases hr
   | _=>exact ⟨k,by rw [hk]; exact hr⟩
 | cond c a b iha ihb =>
  intro fr H r hr
  simp only [l5] at hr ⊢
  cases hc:ev fr c with
  | none=>rw [hc] at hr; cases hr
  | some v =>
   rw [hc] at hr
   cases v with
   | bool t=>cases t with
    | true=>exact iha hr
    | false=>exact ihb hr
   | _=>cases hr
 | block id a iha =>
  intro fr H r hr
  simp only [l5] at hr ⊢
  cases ho:l5 env e f nr a fr H with
  | none=>rw [ho] at hr; cases hr
  | some x=>rw [ho] at hr; obtain ⟨k,hk⟩:=iha ho; exact ⟨k,by rw [hk]; exact hr⟩
 | loop a iha =>
  intro fr H r hr
  simp only [l5] at hr ⊢
  cases hn:normal env f nr (a01 a) fr H with
  | none=>rw [hn] at hr; cases hr
  | some x =>
   rw [hn] at hr
   simp only at hr ⊢
   split at hr
   ·rename_i ho
    obtain ⟨k,hk⟩:=h.at_ _ _ _ ho
    exact ⟨k,by rw [hk]; exact hr⟩
   ·cases hr
 | _=>intro fr H r hr; first | exact ⟨0,hr⟩ | cases hr
theorem b3W (h:Chain c e) {t:Task} {H:Hp} {o:Out} (hr:step env e t H = some o):∃ k,step env (c k) t H = some o:=by
 cases t with
 | call g args =>
  simp only [step] at hr ⊢
  cases hi:env.intr g with
  | some f =>
   rw [hi] at hr
   cases f with
   | plain f=>exact ⟨0,hr⟩
   | via pre post =>
    simp only at hr ⊢
    split at hr
    ·rename_i hp
     split at hr
     ·rename_i ho
      obtain ⟨k,hk⟩:=h.at_ _ _ _ ho
      exact ⟨k,by rw [hk]; exact hr⟩
     ·cases hr
    ·cases hr
  | none =>
   rw [hi] at hr
   simp only at hr ⊢
   unfold Y9 at hr ⊢
   split at hr
   ·rename_i fn hf hok
    split at hr
    ·cases hr
    ·rename_i d hb
     try simp only [hb]
     cases ho:l5 env e g H.length d (U2 0 args) H with
     | none=>rw [ho] at hr; cases hr
     | some x =>
      rw [ho] at hr
      obtain ⟨k,hk⟩:=a4N h ho
      exact ⟨k,by rw [hk]; exact hr⟩
   ·cases hr
 | loop f nr body fr =>
  simp only [step,a1a] at hr ⊢
  cases ho:l5 env e f nr body fr H with
  | none=>rw [ho] at hr; cases hr
  | some x =>
   rw [ho] at hr
   obtain ⟨k,hk⟩:=a4N h ho
   obtain ⟨ex,fr1,H1⟩:=x
   cases ex with
   | normal =>
    simp only at hr ⊢
    cases hn:normal env f nr (a01 body) fr1 H1 with
    | none=>rw [hn] at hr; cases hr
    | some y =>
     rw [hn] at hr
     simp only at hr
     obtain ⟨j,hj⟩:=h.at_ _ _ _ hr
     refine ⟨max k j,?_⟩
     rw [a0p (h.mono (Nat.le_max_left k j)) hk]
     simp only [hn]
     exact h.mono (Nat.le_max_right k j) _ _ _ hj
   | _=>exact ⟨k,by rw [hk]; exact hr⟩
end
theorem a97 {t:Task} {H:Hp} {o:Out} (h:step env (E env) t H = some o):E env t H = some o:=by
 obtain ⟨k,hk⟩:=b3W (T9 env) h
 exact (T9 env).le (k + 1) t H o hk
theorem E_call {g:Nat} {args:List V} {H:Hp} {o:Out} (hi:env.intr g = none) (h:Y9 env (E env) g args H = some o):E env (.call g args) H = some o :=
 a97 (by simp only [step,hi]; exact h)
theorem a95 {f nr:Nat} {body:Code} {fr:Fr} {H:Hp} {o:Out} (h:a1a env (E env) f nr body fr H = some o):E env (.loop f nr body fr) H = some o:=a97 h
theorem b1M (hE:a1Z env) {g:Nat} {args:List V} {v:V} {xs:List Value} {w:World} (h:E env (.call g args) [] = some (.ret v [])) (hx:o8 ⟨fun _=>none,fun _ _=>none⟩ (fun _ _=>none) w args xs) :
  Calls env.P g xs.toArray w fun e w'=>∃ x ρ lab,e = .returned x /\ Rel ρ lab w' v x /\ RowKit.Below w.heap.size w w':=by
 obtain ⟨k,hk⟩:=(T9 env).at_ _ _ _ h
 refine ((a8A hE k).1.call g args [] _ hk ⟨fun _=>none,fun _ _=>none⟩ (fun _ _=>none) w xs trivial ?_ hx).mono fun e w' he=>?_
 ·exact ⟨fun k cs h=>(by cases h),fun k e cs h=>(by cases h),fun k e n h=>(by cases h),fun k n x h=>(by cases h),fun k x h=>(by cases h),fun b o k h=>(by cases h)⟩
 ·cases e with
  | returned x =>
   obtain ⟨ρ',lab',h1,h2,h3,h4,h5⟩:=he
   exact ⟨x,ρ',lab',rfl,h4,⟨h2.os,h2.tape,h2.output,h2.size,fun b hb=>h2.blk b hb (fun o k h=>by cases h)⟩⟩
  | panicked ch=>exact he.elim
  | outgrown=>exact he.elim
theorem b1N (hE:a1Z env) {g:Nat} {args:List V} {xs:List Value} {w:World} (h:E env (.call g args) [] = some (.ret (.bool true) [])) (hx:o8 ⟨fun _=>none,fun _ _=>none⟩ (fun _ _=>none) w args xs) :
  Calls env.P g xs.toArray w fun e w'=>e = .returned (.bool true) /\ RowKit.Below w.heap.size w w' :=
 (b1M hE h hx).mono fun e w' ⟨x,ρ,lab,h1,h2,h3⟩=>by cases h2; exact ⟨h1,h3⟩
end
end Go.Vm
namespace Go.Vm
section
variable {env:Env} {orc:Orc} {f nr:Nat} {ops:Array Oper} {o:Oper} {rest:List Oper} {fr fr1:Fr} {H H1:Hp} {r:Option Res} {v:V} {K:Res -> Prop}
theorem F4 {g:Nat} {args:Array Operand} {at_:Array TypeId} {l l2:List V} {v v2:V} (hw:o6 ops o fr = some true) (ho:o.op = .call ⟨.value (.func g),args,at_⟩) (hq:env.quiet g = true)
  (hl:evL fr args.toList = some l) (hr:N7 (P6 a0M dep) (l.map a2O) = some l2) (hc:orc (.call g l2) [] = some (.ret v [])) (hv:P6 a0M dep v = some v2)
  (h:Os env orc ops rest (K8 o.dst v2 fr) H K):Os env orc ops (o :: rest) fr H K:=by
 have hp:F6 o.op = false:=by rw [ho]; rfl
 refine a1z hw hp (v:=v2) (H1:=H) ?_ h
 unfold H8
 rw [ho]
 simp only [ev,hl,List.nil_append,List.append_nil,P7,hq,O3,hr,hc,hv]
theorem b3A {g:Nat} {f:Operand} {args:Array Operand} {at_:Array TypeId} {l l2:List V} {v v2:V} (hw:o6 ops o fr = some true) (ho:o.op = .call ⟨.value f,args,at_⟩) (hf:ev fr f = some (.func (.func g) [] []))
  (hq:env.quiet g = true) (hl:evL fr args.toList = some l) (hr:N7 (P6 a0M dep) (l.map a2O) = some l2) (hc:orc (.call g l2) [] = some (.ret v [])) (hv:P6 a0M dep v = some v2)
  (h:Os env orc ops rest (K8 o.dst v2 fr) H K):Os env orc ops (o :: rest) fr H K:=by
 have hp:F6 o.op = false:=by rw [ho]; rfl
 refine a1z hw hp (v:=v2) (H1:=H) ?_ h
 unfold H8
 rw [ho]
 simp only [hf,hl,List.nil_append,List.append_nil,P7,hq,O3,hr,hc,hv]
theorem a7y {g:Nat} {args:Array Operand} {at_:Array TypeId} {l:List V} {v:V} (hw:o6 ops o fr = some true) (ho:o.op = .call ⟨.value (.func g),args,at_⟩)
  (hl:evL fr args.toList = some l) (hc:P7 env orc (newName o) g l H = some (.val v H1))
  (h:Os env orc ops rest (K8 o.dst v fr) H1 K):Os env orc ops (o :: rest) fr H K:=by
 have hp:F6 o.op = false:=by rw [ho]; rfl
 refine a1z hw hp (v:=v) (H1:=H1) ?_ h
 unfold H8
 rw [ho]
 simp only [ev,hl,List.nil_append,List.append_nil,hc]
def a2V (env:Env) (g:Nat) (args:List V) (H:Hp):Option (List Nat × List V × Hp) :=
 fL (Q0 (env.argTags g) (env.a1m g) args) fun a7J =>
 fN (reach H 99 (a7J.flatMap (O5 dep)) []) fun ns =>
 match N7 (P6 (idx · ns) dep) a7J,a0F H (idx · ns) ns 0 with
 | some G7,some H2=>fL G7 fun G7=>fH H2 fun H2 =>
  fL (V8 (env.argTags g) G7 ns.length).1 fun a1 =>
  fH ((F3 H2 (V8 (env.argTags g) G7 ns.length).2).1 ++ a4J ns.length ((F3 H2 (V8 (env.argTags g) G7 ns.length).2).2 - ns.length)) fun Hb =>
  fL (a3T env.full a1 Hb).1 fun ac=>fH (a3T env.full a1 Hb).2 fun Hc=>some (ns,ac,Hc)
 | _,_=>none
theorem a2W {g:Nat} {args ac:List V} {ns:List Nat} {Hc:Hp} (h:a2V env g args H = some (ns,ac,Hc)):∃ G7 H2,reach H 99 ((Q0 (env.argTags g) (env.a1m g) args).flatMap (O5 dep)) [] = ns /\
  N7 (P6 (idx · ns) dep) (Q0 (env.argTags g) (env.a1m g) args) = some G7 /\ a0F H (idx · ns) ns 0 = some H2 /\
  a3T env.full (V8 (env.argTags g) G7 ns.length).1 ((F3 H2 (V8 (env.argTags g) G7 ns.length).2).1 ++ a4J ns.length ((F3 H2 (V8 (env.argTags g) G7 ns.length).2).2 - ns.length)) = (ac,Hc):=by
 unfold a2V at h
 simp only [fL_eq,a9q,a5z] at h
 generalize hns:reach H 99 ((Q0 (env.argTags g) (env.a1m g) args).flatMap (O5 dep)) [] = ns' at h
 split at h
 ·rename_i G7 H2 h1 h2
  simp only [Option.some.injEq,Prod.mk.injEq] at h
  obtain ⟨rfl,h3,h4⟩:=h
  exact ⟨G7,H2,rfl,h1,h2,Prod.ext h3 h4⟩
 ·cases h
theorem a2X {k g:Nat} {args ac:List V} {ns:List Nat} {H3 H4 Hc:Hp} {v v4:V} (hq:(env.quiet g || env.look g) = false) (hp:a2V env g args H = some (ns,ac,Hc)) (hc:orc (.call g ac) Hc = some (.ret v H3)) (h7:a3b (P6 (C9 ns k) dep v) = some v4)
  (h8:a0k (R4 (C9 ns k) H3 H) = some H4) (h9:a00 H H3 k ns.length = true):P7 env orc k g args H = some (.val v4 H4):=by
 obtain ⟨hq,hlk⟩:=Bool.or_eq_false_iff.1 hq
 rw [a0A] at h8
 rw [a4p] at h7
 obtain ⟨G7,H2,h1,h2,h3,h4⟩:=a2W hp
 simp only [P7,hlk,H9,hq,h1,h2,h3,h4,hc,h7,h8,h9]
theorem b0O {k g:Nat} {args ac:List V} {ns:List Nat} {H3 H4 Hc:Hp} {v v4:V} (hq:(env.quiet g || env.look g) = false) (hp:a2V env g args H = some (ns,ac,Hc)) (hc:orc (.call g ac) Hc = some (.pan v H3)) (h7:a3b (P6 (C9 ns k) dep v) = some v4)
  (h8:a0k (R4 (C9 ns k) H3 H) = some H4) (h9:a00 H H3 k ns.length = true):P7 env orc k g args H = some (.pan v4 H4):=by
 obtain ⟨hq,hlk⟩:=Bool.or_eq_false_iff.1 hq
 rw [a0A] at h8
 rw [a4p] at h7
 obtain ⟨G7,H2,h1,h2,h3,h4⟩:=a2W hp
 simp only [P7,hlk,H9,hq,h1,h2,h3,h4,hc,h7,h8,h9]
theorem b0h {k g:Nat} {args ac:List V} {ns:List Nat} {H3 Hc:Hp} {v v4:V} (hq:env.quiet g = false) (hlk:env.look g = true) (hp:a2V env g args H = some (ns,ac,Hc)) (hc:orc (.call g ac) Hc = some (.ret v H3)) (h7:a3b (P6 (C9 ns k) dep v) = some v4)
  (h8:a0k (R4 (C9 ns k) H3 H) = some H) (h9:a00 H H3 k ns.length = true):P7 env orc k g args H = some (.val v4 H):=by
 rw [a0A] at h8
 rw [a4p] at h7
 obtain ⟨G7,H2,h1,h2,h3,h4⟩:=a2W hp
 simp only [P7,hlk,H9,hq,h1,h2,h3,h4,hc,h7,h8,h9,b1f,b2w]
theorem A8 {j d:Nat} {w c:Bool} {fr':Fr} (hg:o.guard = some (j,w)) (hd:(ops[j]?).bind (·.dst) = some d) (hf:fr = (d,.bool c) :: fr')
  (h1:c = true -> Os env orc ops (o :: rest) ((d,.bool true) :: fr') H K) (h2:c = false -> Os env orc ops (o :: rest) ((d,.bool false) :: fr') H K):Os env orc ops (o :: rest) fr H K:=by
 subst hf
 cases c with
 | true=>exact h1 rfl
 | false=>exact h2 rfl
theorem J9 {c:Operand} {a b:Code} {t:Bool} (hc:ev fr c = some (.bool t)) (h1:t = true -> Ev env orc f nr a fr H K) (h2:t = false -> Ev env orc f nr b fr H K):Ev env orc f nr (.cond c a b) fr H K:=by
 cases t with
 | true=>exact M9 hc rfl (h1 rfl)
 | false=>exact P8 hc rfl (h2 rfl)
theorem wrap64 {x:Int} (h1:-9223372036854775808 <= x) (h2:x < 9223372036854775808):IntKind.wrap .i64 x = x:=by
 simp only [IntKind.wrap,IntKind.bits,IntKind.signed]; simp; split <;> omega
theorem addN {i k:Nat} (h:i + k < 9223372036854775808):a0B (some (.int .i64 (IntKind.wrap .i64 ((i:Int) + (k:Int))))) = some (.int .i64 ((i + k:Nat):Int)):=by
 rw [wrap64 (by omega) (by omega)]; simp [a0B,fV]
theorem subN {i k:Nat} (h:k <= i) (hi:i < 9223372036854775808):a0B (some (.int .i64 (IntKind.wrap .i64 ((i:Int) - (k:Int))))) = some (.int .i64 ((i - k:Nat):Int)):=by
 rw [wrap64 (by omega) (by omega)]; simp only [a0B,fV]; congr 2; omega
theorem add1 {i:Nat} (h:i < 9223372036854775807):a0B (some (.int .i64 (IntKind.wrap .i64 ((i:Int) + 1)))) = some (.int .i64 ((i + 1:Nat):Int)):=addN (k:=1) (by omega)
theorem add2 {i:Nat} (h:i < 9223372036854775806):a0B (some (.int .i64 (IntKind.wrap .i64 ((i:Int) + 2)))) = some (.int .i64 ((i + 2:Nat):Int)):=addN (k:=2) (by omega)
theorem sub1 {i:Nat} (h:1 <= i) (hi:i < 9223372036854775808):a0B (some (.int .i64 (IntKind.wrap .i64 ((i:Int) - 1)))) = some (.int .i64 ((i - 1:Nat):Int)):=subN (k:=1) h hi
theorem a0K {i n:Nat} (h:i < n):inR (i:Int) n = true:=by simp only [inR,Bool.and_eq_true,decide_eq_true_eq]; omega
theorem a6p {a b n:Nat} (h1:a <= b) (h2:b <= n):inI (a:Int) (b:Int) n = true:=by simp only [inI,Bool.and_eq_true,decide_eq_true_eq]; omega
theorem ltN (a b:Nat):ltB (a:Int) (b:Int) = decide (a < b):=by simp only [ltB]; congr 1; simp
theorem leN_ (a b:Nat):leB (a:Int) (b:Int) = decide (a <= b):=by simp only [leB]; congr 1; simp
theorem a8c {a b:Nat} (h:a <= b):leN a b = true:=by simp [leN,h]
theorem a0z {a b:Nat} (h:a = b):eqN a b = true:=by simp [eqN,h]
theorem b2C {T:List (Nat × Ty)} {t xt e g n m w k:Nat} {y yx ye:Ty} {cs news:List V} {x:V} (h1:G5 t T = some y) (h2:G5 xt T = some yx) (h3:y.sh = .slice e) (h4:a6O yx.sh = true) (h5:G5 e T = some ye)
  (h6:a5Z T e x H = some (m,news)) (h7:Nat.beq m 0 = false) (h8:hget g H = some (.tip w n)) (h9:w = 0 ∨ w = ye.size) (h10:Nat.beq ye.size 0 = false) (h11:n * ye.size = cs.length) (h12:(n + m) * (ye.bytes + 1) <= 70368744177664) :
  a2g T t xt (.slice (.tag g) n cs) x H k = some (.val (.slice (.tag g) (n + m) (cs ++ news)) (hset g (.tip ye.size (n + m)) H)):=by
 have hw:(Nat.beq w 0 || Nat.beq w ye.size) = true:=by rcases h9 with rfl | rfl <;> simp
 simp only [a2g,h1,h2,h3,h4,h5,h6,h7,h8,hw,h10,a0z rfl,a0z h11,a8c h12,Bool.not_false,Bool.and_self,gd]
theorem a5J {t:Nat} {a:Operand} {x v:V} (hw:o6 ops o fr = some true) (ho:o.op = .load t a) (ha:ev fr a = some x) (hl:Z4 env.T t x H = some v) (h:Os env orc ops rest (K8 o.dst v fr) H K):Os env orc ops (o :: rest) fr H K:=by
 have hp:F6 o.op = false:=by rw [ho]; rfl
 refine a1z hw hp (v:=v) (H1:=H) ?_ h
 unfold H8
 rw [ho]
 simp only [ha,hl]
theorem a7z {a b:Nat} {c:Operand} {x v:V} (hw:o6 ops o fr = some true) (ho:o.op = .convert a b c) (ha:ev fr c = some x) (hl:b1y env.T a b x = some v) (h:Os env orc ops rest (K8 o.dst v fr) H K):Os env orc ops (o :: rest) fr H K:=by
 have hp:F6 o.op = true:=by rw [ho]; rfl
 refine a8q hw hp (v:=v) ?_ h
 rw [ho]
 simp only [J7,ha,hl]
theorem a8S:∀ l:List UInt8,a1c (U8 l) = some l
 | []=>rfl
 | b :: r=>by
  have:=a8S r
  simp only [U8,List.map_cons] at this ⊢
  simp only [a1c,this]
  congr 2
  simp
theorem half {x:Nat} (h:x < 9223372036854775808):a0B (gd (!eqB (2:Int) 0) (some (.int .i64 (IntKind.wrap .i64 ((x:Int).tdiv 2))))) = some (.int .i64 ((x / 2:Nat):Int)):=by
 have:(x:Int).tdiv 2 = ((x / 2:Nat):Int):=by rw [Int.tdiv_eq_ediv_of_nonneg (by omega)]; omega
 rw [this,wrap64 (by omega) (by omega)]
 have:(!eqB (2:Int) 0) = true:=by simp [eqB]
 rw [this]; rfl
theorem a1E {n':Nat} {cs':List V} {args:Array Operand} {at_:Array TypeId} {a b:Operand} {t xt e g n m w:Nat} {y yx ye:Ty} {cs news:List V} {x:V} (hw:o6 ops o fr = some true) (ho:o.op = .call ⟨.builtin .append,args,at_⟩)
  (ha:args.toList = [a,b]) (ht:at_.toList = [t,xt]) (hs:ev fr a = some (.slice (.tag g) n cs)) (hx:ev fr b = some x)
  (h1:G5 t env.T = some y) (h2:G5 xt env.T = some yx) (h3:y.sh = .slice e) (h4:a6O yx.sh = true) (h5:G5 e env.T = some ye)
  (h6:a5Z env.T e x H = some (m,news)) (h7:Nat.beq m 0 = false) (h8:hget g H = some (.tip w n)) (h9:w = 0 ∨ w = ye.size) (h10:Nat.beq ye.size 0 = false) (h11:n * ye.size = cs.length) (h12:(n + m) * (ye.bytes + 1) <= 70368744177664)
  (hn:n + m = n') (hcs:cs ++ news = cs') (hH:a0k (some (hset g (.tip ye.size n') H)) = some H1)
  (h:Os env orc ops rest (K8 o.dst (.slice (.tag g) n' cs') fr) H1 K):Os env orc ops (o :: rest) fr H K:=by
 have hp:F6 o.op = false:=by rw [ho]; rfl
 rw [a0A,Option.some.injEq] at hH
 subst hH hn hcs
 refine a1z hw hp ?_ h
 unfold H8
 rw [ho]
 simp only [ha,ht,hs,hx]
 exact b2C h1 h2 h3 h4 h5 h6 h7 h8 h9 h10 h11 h12
def Lp (env:Env) (f nr:Nat) (body:Code) (fr:Fr) (H:Hp) (K:Res -> Prop):Prop:=∃ r,E env (.loop f nr body fr) H = some (.res r) /\ K r
def b0E (env:Env) (f nr:Nat) (body:Code) (K:Res -> Prop):Res -> Prop
 | (.normal,fr,H)=>∃ fr1 H1,normal env f nr (a01 body) fr H = some (fr1,H1) /\ Lp env f nr body fr1 H1 K
 | r=>K r
theorem b1g {body:Code} (h:Ev env (E env) f nr body fr H (b0E env f nr body K)):Lp env f nr body fr H K:=by
 obtain ⟨⟨e,fr1,H1⟩,h1,h2⟩:=h
 cases e with
 | normal =>
  obtain ⟨fr2,H2,h3,r,h4,h5⟩:=h2
  exact ⟨r,a95 (by simp only [a1a,h1,h3]; exact h4),h5⟩
 | ret=>exact ⟨_,a95 (by simp only [a1a,h1]),h2⟩
 | exit i=>exact ⟨_,a95 (by simp only [a1a,h1]),h2⟩
 | panic v=>exact ⟨_,a95 (by simp only [a1a,h1]),h2⟩
theorem a0h {body:Code} (hn:normal env f nr (a01 body) fr H = some (fr1,H1)) (h:Lp env f nr body fr1 H1 K):Ev env (E env) f nr (.loop body) fr H K:=by
 obtain ⟨r,h1,h2⟩:=h
 exact ⟨r,by simp only [l5,hn,h1],h2⟩
theorem Lp.mono {body:Code} {K K':Res -> Prop} (h:Lp env f nr body fr H K) (hk:∀ r,K r -> K' r):Lp env f nr body fr H K':=by
 obtain ⟨r,h1,h2⟩:=h; exact ⟨r,h1,hk r h2⟩
theorem L8 {g:Nat} {fn:Func} {c:Code} {args:List V} {v1:V} {H2:Hp} (hi:env.intr g = none) (hf:env.P.funcs[g]? = some fn) (hok:env.ok g = true) (hb:fn.body = some c)
  (h:Ev env (E env) g H.length c (U2 0 args) H (RetK env H.length fn.results.toList (env.frz g) (env.tags g) (env.a4I g) v1 H2)):E env (.call g args) H = some (.ret v1 H2) :=
 E_call hi (b0G hf hok hb h)
theorem H6 {g:Nat} {fn:Func} {c:Code} {args:List V} {out:Out} (hi:env.intr g = none) (hf:env.P.funcs[g]? = some fn) (hok:env.ok g = true) (hb:fn.body = some c)
  (h:Ev env (E env) g H.length c (U2 0 args) H (OutK env g H.length fn.results.toList out)):E env (.call g args) H = some out :=
 E_call hi (run_out hf hok hb h)
def RetP (env:Env) (nr:Nat) (l:List ResultVar) (fz tg:Bool) (m:Nat -> Bool) (P:V -> Hp -> Prop):Res -> Prop
 | (.ret,fr,H1) | (.normal,fr,H1)=>∃ v v1 H2,a09 env.T fr H1 l = some v /\ finT fz tg m nr v H1 = some (v1,H2) /\ P v1 H2
 | _=>False
theorem a6i {g:Nat} {fn:Func} {c:Code} {args:List V} {P:V -> Hp -> Prop} (hi:env.intr g = none) (hf:env.P.funcs[g]? = some fn) (hok:env.ok g = true) (hb:fn.body = some c)
  (h:Ev env (E env) g H.length c (U2 0 args) H (RetP env H.length fn.results.toList (env.frz g) (env.tags g) (env.a4I g) P)):∃ v H2,E env (.call g args) H = some (.ret v H2) /\ P v H2:=by
 obtain ⟨⟨e,fr1,H1⟩,h1,h2⟩:=h
 cases e with
 | normal =>
  obtain ⟨v,v1,H2,h3,h4,h5⟩:=h2
  exact ⟨v1,H2,L8 hi hf hok hb ⟨_,h1,v,h3,h4⟩,h5⟩
 | ret =>
  obtain ⟨v,v1,H2,h3,h4,h5⟩:=h2
  exact ⟨v1,H2,L8 hi hf hok hb ⟨_,h1,v,h3,h4⟩,h5⟩
 | exit i=>exact h2.elim
 | panic v=>exact h2.elim
theorem a5d {σ:Type} {body:Code} (F:σ -> Fr) (G:σ -> Hp) (P:σ -> Prop) (μ:σ -> Nat) (i:σ) (hP:P i)
  (round:∀ j,P j -> (∀ j',μ j' < μ j -> P j' -> Lp env f nr body (F j') (G j') K) -> Ev env (E env) f nr body (F j) (G j) (b0E env f nr body K)):Lp env f nr body (F i) (G i) K:=by
 have key:∀ m j,μ j = m -> P j -> Lp env f nr body (F j) (G j) K:=by
  intro m
  induction m using Nat.strongRecOn with
  | _ m ih =>
   intro j hj hp
   exact b1g (round j hp fun j' hlt hp'=>ih (μ j') (by omega) j' rfl hp')
 exact key _ i rfl hP
end
end Go.Vm
namespace Go.Vm
def Off (D:List Nat) (fr fr':Fr):Prop:=∀ s,has s D = false -> look s fr = look s fr'
theorem Off.refl {D:List Nat} {fr:Fr}:Off D fr fr:=fun _ _=>rfl
theorem Off.symm {D:List Nat} {fr fr':Fr} (h:Off D fr fr'):Off D fr' fr:=fun s hs=>(h s hs).symm
theorem Off.trans {D:List Nat} {a b c:Fr} (h:Off D a b) (g:Off D b c):Off D a c:=fun s hs=>(h s hs).trans (g s hs)
theorem Off.left {D:List Nat} {a b:Fr} {k:Nat} {v:V} (hk:has k D = true) (h:Off D a b):Off D ((k,v) :: a) b:=by
 intro s hs
 simp only [look]
 cases hb:Nat.beq k s with
 | true=>have:=Nat.eq_of_beq_eq_true hb; subst this; rw [hk] at hs; cases hs
 | false=>exact h s hs
theorem Off.right {D:List Nat} {a b:Fr} {k:Nat} {v:V} (hk:has k D = true) (h:Off D a b):Off D a ((k,v) :: b):=(Off.left hk h.symm).symm
theorem Off.both {D:List Nat} {a b:Fr} {k:Nat} {v:V} (h:Off D a b):Off D ((k,v) :: a) ((k,v) :: b):=by
 intro s hs
 simp only [look]
 cases Nat.beq k s with
 | true=>rfl
 | false=>exact h s hs
def a4C (D:List Nat):Operand -> Bool
 | .tmp t=>!has t D
 | _=>true
def offL (D:List Nat) (l:List Operand):Bool:=l.all (a4C D)
def offP (D:List Nat) (l:List (Nat × Operand)):Bool:=l.all fun p=>a4C D p.2
def offX (D:List Nat) (o:Option Operand):Bool:=match o with | none=>true | some x=>a4C D x
def a8m (D:List Nat):Op -> Bool
 | .move x | .assign x | .nilCheck x | .unOp _ _ x | .convert _ _ x | .makeInterface _ x | .fieldAddr _ x _ | .field _ x _ | .typeAssert x .. | .extract x _ | .load _ x | .box _ x | .panic x=>a4C D x
 | .pick a b c=>a4C D a && a4C D b && a4C D c
 | .build _ ps | .buildSlice _ _ ps=>offP D ps.toList
 | .binOp _ _ x y _ | .indexAddr _ x y | .index _ x y | .store _ x y | .makeSlice _ x y=>a4C D x && a4C D y
 | .makeFunc _ a b=>offL D a.toList && offL D b.toList
 | .slice _ x lo hi mx=>a4C D x && offX D lo && offX D hi && offX D mx
 | .alloc _ | .makeMap _ none=>true
 | .call c=>offL D c.args.toList && (match c.callee with | .value f=>a4C D f | .invoke r _=>a4C D r | _=>true)
 | _=>false
section
variable {D:List Nat} {fr fr':Fr}
theorem I4 (h:Off D fr fr') {o:Operand} (ho:a4C D o = true):ev fr o = ev fr' o:=by
 cases o with
 | tmp t=>simp only [a4C,Bool.not_eq_true'] at ho; simp only [ev,h t ho]
 | _=>rfl
theorem a5y (h:Off D fr fr'):∀ {l:List Operand},offL D l = true -> evL fr l = evL fr' l
 | [],_=>rfl
 | o :: l,ho=>by
  simp only [offL,List.all_cons,Bool.and_eq_true] at ho
  have:=a5y h (l:=l) ho.2
  simp only [evL,N7] at this ⊢
  rw [I4 h ho.1,this]
theorem b0m (h:Off D fr fr'):∀ {l:List (Nat × Operand)},offP D l = true -> evP fr l = evP fr' l
 | [],_=>rfl
 | o :: l,ho=>by
  simp only [offP,List.all_cons,Bool.and_eq_true] at ho
  have:=b0m h (l:=l) ho.2
  simp only [evP,N7] at this ⊢
  rw [I4 h ho.1,this]
theorem b0n (h:Off D fr fr') {o:Option Operand} (ho:offX D o = true):evX fr o = evX fr' o:=by
 cases o with
 | none=>rfl
 | some x=>simp only [evX,I4 h (o:=x) ho]
theorem b36 (h:Off D fr fr') {T:List (Nat × Ty)} {o:Op} (ho:a8m D o = true):J7 T fr o = J7 T fr' o:=by
 cases o <;> simp only [a8m,Bool.and_eq_true] at ho <;> try rfl
 case move x=>simp only [J7,I4 h ho]
 case assign x=>simp only [J7,I4 h ho]
 case nilCheck x=>simp only [J7,I4 h ho]
 case unOp x=>simp only [J7,I4 h ho]
 case convert x=>simp only [J7,I4 h ho]
 case makeInterface x=>simp only [J7,I4 h ho]
 case fieldAddr x _=>simp only [J7,I4 h ho]
 case field x _=>simp only [J7,I4 h ho]
 case typeAssert x _ _ _=>simp only [J7,I4 h ho]
 case extract x _=>simp only [J7,I4 h ho]
 case pick=>simp only [J7,I4 h ho.1.1,I4 h ho.1.2,I4 h ho.2]
 case build=>simp only [J7,b0m h ho]
 case buildSlice=>simp only [J7,b0m h ho]
 case binOp=>simp only [J7,I4 h ho.1,I4 h ho.2]
 case indexAddr=>simp only [J7,I4 h ho.1,I4 h ho.2]
 case index=>simp only [J7,I4 h ho.1,I4 h ho.2]
 case makeFunc=>simp only [J7,a5y h ho.1,a5y h ho.2]
 case slice=>simp only [J7,I4 h ho.1.1.1,b0n h ho.1.1.2,b0n h ho.1.2,b0n h ho.2]
 case call c =>
  obtain ⟨callee,args,at_⟩:=c
  cases callee with
  | builtin b =>
   cases b <;> try rfl
   case len =>
    simp only [J7]
    generalize hl:args.toList = l at ho
    generalize at_.toList = ts
    match l,ts with
    | [x],t :: _=>simp only [offL,List.all_cons,Bool.and_eq_true] at ho; simp only [I4 h ho.1.1]
    | [],_=>rfl
    | _ :: _ :: _,_=>rfl
    | [_],[]=>rfl
   case min =>
    simp only [J7]
    generalize hl:args.toList = l at ho
    match l with
    | [x,y]=>simp only [offL,List.all_cons,Bool.and_eq_true] at ho; simp only [I4 h ho.1.1,I4 h ho.1.2.1]
    | []=>rfl
    | [_]=>rfl
    | _ :: _ :: _ :: _=>rfl
   case max =>
    simp only [J7]
    generalize hl:args.toList = l at ho
    match l with
    | [x,y]=>simp only [offL,List.all_cons,Bool.and_eq_true] at ho; simp only [I4 h ho.1.1,I4 h ho.1.2.1]
    | []=>rfl
    | [_]=>rfl
    | _ :: _ :: _ :: _=>rfl
  | _=>rfl
theorem b2k {env:Env} {orc:Orc} {H:Hp} (h:Off D fr fr') {o:Oper} (ho:a8m D o.op = true):D5 env orc fr H o = D5 env orc fr' H o:=by
 unfold D5 H8 newName
 generalize o.dst = dst
 generalize o.op = op at ho
 rw [b36 h ho]
 cases hp:F6 op with
 | true=>rfl
 | false =>
  simp only
  cases op <;> simp only [a8m,Bool.and_eq_true] at ho <;> try rfl
  case makeMap t r=>cases r <;> rfl
  case load=>simp only [I4 h ho]
  case box=>simp only [I4 h ho]
  case panic=>simp only [I4 h ho]
  case store=>simp only [I4 h ho.1,I4 h ho.2]
  case makeSlice=>simp only [I4 h ho.1,I4 h ho.2]
  case call c =>
   obtain ⟨callee,args,at_⟩:=c
   cases callee with
   | builtin b =>
    cases b <;> try rfl
    case append =>
     simp only
     generalize hl:args.toList = l at ho
     generalize at_.toList = ts
     match l,ts with
     | [x,y],[t,u]=>simp only [offL,List.all_cons,Bool.and_eq_true] at ho; simp only [I4 h ho.1.1,I4 h ho.1.2.1]
     | [],_=>rfl
     | [_],_=>rfl
     | _ :: _ :: _ :: _,_=>rfl
     | [_,_],[]=>rfl
     | [_,_],[_]=>rfl
     | [_,_],_ :: _ :: _ :: _=>rfl
   | value f=>simp only [I4 h ho.2,a5y h ho.1]
   | invoke r m=>simp only [I4 h ho.2,a5y h ho.1]
def a2a (D:List Nat) (ops:Array Oper) (o:Oper):Bool:=a8m D o.op && (match o.guard with | none=>true | some (j,_)=>match (ops[j]?).bind (·.dst) with | some t=>!has t D | none=>true)
theorem b1A {ops:Array Oper} {o:Oper} (h:Off D fr fr') (ho:a2a D ops o = true):o6 ops o fr = o6 ops o fr':=by
 simp only [a2a,Bool.and_eq_true] at ho
 unfold o6
 cases hg:o.guard with
 | none=>rfl
 | some x =>
  obtain ⟨j,w⟩:=x
  have h2:=ho.2
  rw [hg] at h2
  simp only at h2 ⊢
  unfold a4m
  cases hd:(ops[j]?).bind (·.dst) with
  | none=>rfl
  | some t =>
   rw [hd] at h2
   simp only [Bool.not_eq_true'] at h2
   simp only [h t h2]
theorem Off.put (h:Off D fr fr') {d:Option Nat} {v:V}:Off D (K8 d v fr) (K8 d v fr'):=by
 cases d with
 | none=>exact h
 | some d=>exact h.both
def OffR (D:List Nat):Option Res -> Option Res -> Prop
 | none,none=>True
 | some (e,fr,H),some (e',fr',H')=>e = e' /\ H = H' /\ Off D fr fr'
 | _,_=>False
theorem OffR.refl {r:Option Res}:OffR D r r:=by
 cases r with
 | none=>trivial
 | some r=>exact ⟨rfl,rfl,.refl⟩
theorem a3S {env:Env} {orc:Orc} {ops:Array Oper}:∀ {l:List Oper} {fr fr':Fr} {H:Hp},Off D fr fr' -> l.all (a2a D ops) = true -> OffR D (p8 env orc ops l fr H) (p8 env orc ops l fr' H)
 | [],fr,fr',H,h,_=>⟨rfl,rfl,h⟩
 | o :: l,fr,fr',H,h,ho=>by
  simp only [List.all_cons,Bool.and_eq_true] at ho
  have h2:a8m D o.op = true:=by have:=ho.1; simp only [a2a,Bool.and_eq_true] at this; exact this.1
  simp only [p8]
  rw [b1A h ho.1,b2k h h2]
  cases o6 ops o fr' with
  | none=>trivial
  | some b =>
   cases b with
   | false=>exact a3S h.put ho.2
   | true =>
    cases D5 env orc fr' H o with
    | none=>trivial
    | some r =>
     cases r with
     | val v H1=>exact a3S h.put ho.2
     | pan v H1=>exact ⟨rfl,rfl,h⟩
def a5h (env:Env) (f:Nat) (D:List Nat):Code -> Bool
 | .region id ops d=>!isSome (a5U env f id d) && ops.toList.all (a2a D ops)
 | .seq a b=>!env.cut f (a0o b) && a5h env f D a && a5h env f D b
 | .cond c a b=>a4C D c && a5h env f D a && a5h env f D b
 | .block _ c=>a5h env f D c
 | .loop body=>(env.keep f (a01 body)).all fun s=>!has s D
 | .skip | .label _ | .exit _ | .ret=>true
 | _=>false
theorem a8l {env:Env} {f nr lp:Nat} {H:Hp} (h:Off D fr fr') (hk:((env.keep f lp).all fun s=>!has s D) = true):normal env f nr lp fr H = normal env f nr lp fr' H:=by
 have:((env.keep f lp).map fun s=>(s,look s fr)) = ((env.keep f lp).map fun s=>(s,look s fr')):=by
  apply List.map_congr_left
  intro s hs
  have:=List.all_eq_true.1 hk s hs
  rw [h s (by simpa using this)]
 unfold normal
 rw [this]
theorem b3z {ops:Array Oper} {b:Bool} (hc:ops.toList.all (a2a D ops) = true) {r r':Option Res} (h:OffR D r r'):OffR D (a1g b ops r) (a1g b ops r'):=by
 cases b with
 | false=>exact h
 | true =>
  cases r with
  | none =>
   cases r' with
   | none=>trivial
   | some r'=>exact h.elim
  | some r =>
   cases r' with
   | none=>exact h.elim
   | some r' =>
    obtain ⟨e,g,H1⟩:=r
    obtain ⟨e',g',H1'⟩:=r'
    obtain ⟨rfl,rfl,h3⟩:=h
    cases e with
    | normal =>
     have he:((U1 ops.toList).all fun t=>a1K (look t g)) = ((U1 ops.toList).all fun t=>a1K (look t g')):=by
      have key:∀ l:List Oper,l.all (a2a D ops) = true -> ((U1 l).all fun t=>a1K (look t g)) = ((U1 l).all fun t=>a1K (look t g')):=by
       intro l
       induction l with
       | nil=>intro _; rfl
       | cons o l ih =>
        intro hl
        simp only [List.all_cons,Bool.and_eq_true] at hl
        simp only [U1]
        cases ht:W9 o with
        | none=>exact ih hl.2
        | some t =>
         simp only [List.all_cons]
         rw [ih hl.2]
         have h4:has t D = false:=by
          have h5:=hl.1
          simp only [a2a,Bool.and_eq_true] at h5
          unfold W9 at ht
          split at ht
          ·rename_i ty t' hop
           cases ht
           have h6:=h5.1
           rw [hop] at h6
           simpa [a8m,a4C] using h6
          ·cases ht
         rw [h3 t h4]
      exact key _ hc
     simp only [a1g,he]
     cases (U1 ops.toList).all fun t=>a1K (look t g') with
     | true=>exact ⟨rfl,rfl,h3⟩
     | false=>trivial
    | ret=>trivial
    | exit i=>trivial
    | panic v=>trivial
theorem b0o {env:Env} {orc:Orc} {f nr:Nat}:∀ {c:Code} {fr fr':Fr} {H:Hp},Off D fr fr' -> a5h env f D c = true -> OffR D (l5 env orc f nr c fr H) (l5 env orc f nr c fr' H):=by
 intro c
 induction c with
 | region id ops d =>
  intro fr fr' H h hc
  simp only [a5h,Bool.and_eq_true,Bool.not_eq_true'] at hc
  obtain ⟨hs,hc⟩:=hc
  have hs2:a5U env f id d = none:=by
   cases hq:a5U env f id d with
   | none=>rfl
   | some x=>rw [hq] at hs; cases hs
  simp only [l5,hs2]
  refine b3z hc ?_
  have:=a3S (env:=env) (orc:=orc) (ops:=ops) (H:=H) h hc
  revert this
  cases p8 env orc ops ops.toList fr H with
  | none =>
   cases p8 env orc ops ops.toList fr' H with
   | none=>intro _; trivial
   | some r=>intro h; exact h.elim
  | some r =>
   cases p8 env orc ops ops.toList fr' H with
   | none=>intro h; exact h.elim
   | some r' =>
    obtain ⟨e,g,H1⟩:=r
    obtain ⟨e',g',H1'⟩:=r'
    rintro ⟨rfl,rfl,h3⟩
    cases e with
    | panic v=>cases d with
     | true=>trivial
     | false=>exact ⟨rfl,rfl,h3⟩
    | _=>exact ⟨rfl,rfl,h3⟩
 | seq a b iha ihb =>
  intro fr fr' H h hc
  simp only [a5h,Bool.and_eq_true,Bool.not_eq_true'] at hc
  simp only [l5,cutAt,hc.1.1]
  have:=iha (H:=H) h hc.1.2
  revert this
  cases l5 env orc f nr a fr H with
  | none =>
   cases l5 env orc f nr a fr' H with
   | none=>intro _; trivial
   | some r=>intro h; exact h.elim
  | some r =>
   cases l5 env orc f nr a fr' H with
   | none=>intro h; exact h.elim
   | some r' =>
    obtain ⟨e,g,H1⟩:=r
    obtain ⟨e',g',H1'⟩:=r'
    rintro ⟨rfl,rfl,h3⟩
    cases e with
    | normal=>exact ihb h3 hc.2
    | _=>exact ⟨rfl,rfl,h3⟩
 | cond c a b iha ihb =>
  intro fr fr' H h hc
  simp only [a5h,Bool.and_eq_true] at hc
  simp only [l5]
  rw [I4 h hc.1.1]
  cases ev fr' c with
  | none=>trivial
  | some v =>
   cases v with
   | bool t=>cases t with
    | true=>exact iha h hc.1.2
    | false=>exact ihb h hc.2
   | _=>trivial
 | block id a iha =>
  intro fr fr' H h hc
  simp only [a5h] at hc
  simp only [l5]
  have:=iha (H:=H) h hc
  revert this
  cases l5 env orc f nr a fr H with
  | none =>
   cases l5 env orc f nr a fr' H with
   | none=>intro _; trivial
   | some r=>intro h; exact h.elim
  | some r =>
   cases l5 env orc f nr a fr' H with
   | none=>intro h; exact h.elim
   | some r' =>
    obtain ⟨e,g,H1⟩:=r
    obtain ⟨e',g',H1'⟩:=r'
    rintro ⟨rfl,rfl,h3⟩
    cases e with
    | exit i =>
     simp only
     cases Nat.beq i id with
     | true=>exact ⟨rfl,rfl,h3⟩
     | false=>exact ⟨rfl,rfl,h3⟩
    | _=>exact ⟨rfl,rfl,h3⟩
 | loop a iha =>
  intro fr fr' H h hc
  simp only [a5h] at hc
  simp only [l5]
  rw [a8l h hc]
  exact .refl
 | skip=>intro fr fr' H h _; exact ⟨rfl,rfl,h⟩
 | label=>intro fr fr' H h _; exact ⟨rfl,rfl,h⟩
 | exit=>intro fr fr' H h _; exact ⟨rfl,rfl,h⟩
 | ret=>intro fr fr' H h _; exact ⟨rfl,rfl,h⟩
 | _=>intro fr fr' H h hc; cases hc
section
variable {env:Env} {orc:Orc} {f nr:Nat} {H H1:Hp} {K:Res -> Prop}
def a6e (D:List Nat) (K:Res -> Prop):Prop:=∀ e g g' H,Off D g g' -> K (e,g,H) -> K (e,g',H)
theorem a9p {c:Code} (D:List Nat) (hc:a5h env f D c = true) (hK:a6e D K) {fr fr':Fr} (ho:Off D fr' fr) (h:Ev env orc f nr c fr' H K):Ev env orc f nr c fr H K:=by
 obtain ⟨⟨e,g,H1⟩,h1,h2⟩:=h
 have:=b0o (env:=env) (orc:=orc) (nr:=nr) (H:=H) ho hc
 rw [h1] at this
 revert this
 cases hq:l5 env orc f nr c fr H with
 | none=>intro h; exact h.elim
 | some r =>
  obtain ⟨e',g',H1'⟩:=r
  rintro ⟨rfl,rfl,h3⟩
  exact ⟨_,hq,hK _ _ _ _ h3 h2⟩
theorem b3O {b:Code} (hb:a5h env f D b = true) (hK:a6e D K):a6e D (thenK env orc f nr b K):=by
 intro e g g' H ho h
 cases e with
 | normal=>exact a9p D hb hK ho h
 | _=>exact hK _ _ _ _ ho h
theorem b2r {id:Nat} (hK:a6e D K):a6e D (b0f id K):=by
 intro e g g' H ho h
 cases e with
 | exit i =>
  simp only [b0f] at h ⊢
  cases hb:Nat.beq i id with
  | true=>rw [hb] at h; exact hK _ _ _ _ ho h
  | false=>rw [hb] at h; exact hK _ _ _ _ ho h
 | _=>exact hK _ _ _ _ ho h
theorem b2s {body:Code} (hk:((env.keep f (a01 body)).all fun s=>!has s D) = true) (hK:a6e D K):a6e D (b0E env f nr body K):=by
 intro e g g' H ho h
 cases e with
 | normal =>
  obtain ⟨fr1,H1,h1,h2⟩:=h
  exact ⟨fr1,H1,by rw [<- a8l ho hk]; exact h1,h2⟩
 | _=>exact hK _ _ _ _ ho h
def a8n (D:List Nat) (l:List ResultVar):Bool:=l.all fun | .tmp t=>!has t D | .cell t _=>!has t D
theorem a2e {T:List (Nat × Ty)} {l:List ResultVar} (h:Off D fr fr') (hl:a8n D l = true):a09 T fr H l = a09 T fr' H l:=by
 have:∀ {l:List ResultVar},a8n D l = true -> N7 (a7k T fr H) l = N7 (a7k T fr' H) l:=by
  intro l
  induction l with
  | nil=>intro _; rfl
  | cons r l ih =>
   intro hl
   simp only [a8n,List.all_cons,Bool.and_eq_true] at hl
   have h1:a7k T fr H r = a7k T fr' H r:=by
    cases r with
    | tmp t=>simp only [a7k,h t (by simpa using hl.1)]
    | cell t _=>simp only [a7k,h t (by simpa using hl.1)]
   simp only [N7]
   rw [h1,ih hl.2]
 unfold a09
 rw [this hl]
theorem resp_ret {l:List ResultVar} {fz tg:Bool} {m:Nat -> Bool} {v1:V} {H2:Hp} (hl:a8n D l = true):a6e D (RetK env nr l fz tg m v1 H2):=by
 intro e g g' H ho h
 cases e with
 | normal=>obtain ⟨v,h1,h2⟩:=h; exact ⟨v,by rw [<- a2e ho hl]; exact h1,h2⟩
 | ret=>obtain ⟨v,h1,h2⟩:=h; exact ⟨v,by rw [<- a2e ho hl]; exact h1,h2⟩
 | _=>exact h
theorem b3N {l:List ResultVar} {fz tg:Bool} {m:Nat -> Bool} {P:V -> Hp -> Prop} (hl:a8n D l = true):a6e D (RetP env nr l fz tg m P):=by
 intro e g g' H ho h
 cases e with
 | normal=>obtain ⟨v,v1,H2,h1,h2⟩:=h; exact ⟨v,v1,H2,by rw [<- a2e ho hl]; exact h1,h2⟩
 | ret=>obtain ⟨v,v1,H2,h1,h2⟩:=h; exact ⟨v,v1,H2,by rw [<- a2e ho hl]; exact h1,h2⟩
 | _=>exact h
def joinK {α:Type} (D:List Nat) (F:α -> Fr) (G:α -> Hp) (Q:α -> Prop) (K:Res -> Prop):Res -> Prop
 | (.normal,g,H)=>∃ x,Q x /\ Off D (F x) g /\ H = G x
 | r=>K r
theorem ev_join {a b:Code} {fr:Fr} {α:Type} (D:List Nat) (F:α -> Fr -> Fr) (G:α -> Hp -> Hp) (Q:α -> Prop) (hb:a5h env f D b = true) (hK:a6e D K)
  (h1:Ev env orc f nr a fr H (joinK D (fun x=>F x fr) (fun x=>G x H) Q K)) (h2:∀ x,Q x -> Ev env orc f nr b (F x fr) (G x H) K) (hcu:env.cut f (a0o b) = false:=by rfl):Ev env orc f nr (.seq a b) fr H K:=by
 refine w9 ?_ hcu
 obtain ⟨⟨e,g,H1⟩,h3,h4⟩:=h1
 refine ⟨_,h3,?_⟩
 cases e with
 | normal =>
  obtain ⟨x,hx,ho,rfl⟩:=h4
  exact a9p D hb hK ho (h2 x hx)
 | _=>exact h4
theorem ev_joinF {a b:Code} {fr:Fr} {α:Type} (D:List Nat) (F:α -> Fr -> Fr) (Q:α -> Prop) (hb:a5h env f D b = true) (hK:a6e D K)
  (h1:Ev env orc f nr a fr H (joinK D (fun x=>F x fr) (fun _=>H) Q K)) (h2:∀ x,Q x -> Ev env orc f nr b (F x fr) H K) (hcu:env.cut f (a0o b) = false:=by rfl):Ev env orc f nr (.seq a b) fr H K :=
 ev_join D F (fun _ H=>H) Q hb hK h1 h2 hcu
theorem b3M {α:Type} {D D':List Nat} {F:α -> Fr} {G:α -> Hp} {Q:α -> Prop} (hD:(D'.all fun s=>has s D) = true) (hK:a6e D' K):a6e D' (joinK D F G Q K):=by
 intro e g g' H ho h
 have hs:∀ {s},has s D = false -> has s D' = false:=by
  intro s hs
  have key:∀ l:List Nat,has s l = true -> (l.all fun s=>has s D) = true -> has s D = true:=by
   intro l
   induction l with
   | nil=>intro h; cases h
   | cons a l ih =>
    intro h1 h2
    simp only [List.all_cons,Bool.and_eq_true] at h2
    simp only [has] at h1
    cases hb:Nat.beq a s with
    | true=>have:=Nat.eq_of_beq_eq_true hb; subst this; exact h2.1
    | false=>rw [hb] at h1; exact ih h1 h2.2
  cases h3:has s D' with
  | false=>rfl
  | true=>rw [key D' h3 hD] at hs; cases hs
 cases e with
 | normal =>
  obtain ⟨x,hx,h1,h2⟩:=h
  exact ⟨x,hx,fun s h3=>(h1 s h3).trans (ho s (hs h3)),h2⟩
 | _=>exact hK _ _ _ _ ho h
theorem Off.noop {D:List Nat} {a b:Fr} {k:Nat} {v:V} (hl:look k b = v) (h:Off D a b):Off D ((k,v) :: a) b:=by
 intro s hs
 simp only [look]
 cases hb:Nat.beq k s with
 | true=>have:=Nat.eq_of_beq_eq_true hb; subst this; exact hl.symm
 | false=>exact h s hs
end
end
end Go.Vm
namespace Go.Vm
section
variable {env:Env} {orc:Orc} {ops:Array Oper} {o:Oper} {rest:List Oper} {fr:Fr} {H H1:Hp} {K:Res -> Prop}
end
end Go.Vm
namespace Go.Vm
abbrev Str:=List UInt8
inductive Rs (α β:Type) where
 | ok (a:α)
 | pan (b:β)
inductive Lr (α ρ:Type) where
 | brk (a:α)
 | out (r:ρ)
section
variable {α β γ δ ρ:Type}
def I6 (o:Option (Rs α β)) (k:α -> Option γ) (p:β -> Option γ):Option γ:=match o with
 | none=>none
 | some (.ok a)=>k a
 | some (.pan b)=>p b
def a0E (o:Option (Lr α ρ)) (k:α -> Option ρ):Option ρ:=match o with
 | none=>none
 | some (.brk a)=>k a
 | some (.out r)=>some r
def a7K (o:Option (Lr α ρ)) (k:α -> Option (Lr γ ρ)):Option (Lr γ ρ):=match o with
 | none=>none
 | some (.brk a)=>k a
 | some (.out r)=>some (.out r)
theorem l8 {o:Option α} {k:α -> Option γ} {r:γ} (h:o.bind k = some r):∃ x,o = some x /\ k x = some r:=by
 cases o with
 | none=>cases h
 | some x=>exact ⟨x,rfl,h⟩
theorem K4 {o:Option (Rs α β)} {k:α -> Option γ} {p:β -> Option γ} {r:γ} (h:I6 o k p = some r):(∃ a,o = some (.ok a) /\ k a = some r) ∨ ∃ b,o = some (.pan b) /\ p b = some r:=by
 cases o with
 | none=>cases h
 | some x=>cases x with
  | ok a=>exact .inl ⟨a,rfl,h⟩
  | pan b=>exact .inr ⟨b,rfl,h⟩
theorem a2r {o:Option (Lr α ρ)} {k:α -> Option ρ} {r:ρ} (h:a0E o k = some r):∃ y,o = some y /\ (match y with | .brk a=>k a | .out r'=>some r') = some r:=by
 cases o with
 | none=>cases h
 | some x=>cases x with
  | brk a=>exact ⟨_,rfl,h⟩
  | out b=>exact ⟨_,rfl,h⟩
theorem a9e {o:Option (Lr α ρ)} {k:α -> Option (Lr γ ρ)} {r:Lr γ ρ} (h:a7K o k = some r):∃ y,o = some y /\ (match y with | .brk a=>k a | .out r'=>some (.out r')) = some r:=by
 cases o with
 | none=>cases h
 | some x=>cases x with
  | brk a=>exact ⟨_,rfl,h⟩
  | out b=>exact ⟨_,rfl,h⟩
theorem a0y {c:Bool} {a b:γ} {r:γ} (h:cond c a b = r) (hc:c = true):a = r:=by subst hc; exact h
theorem a0x {c:Bool} {a b:γ} {r:γ} (h:cond c a b = r) (hc:c = false):b = r:=by subst hc; exact h
def idx' (l:List α) (i:Int):Option α:=match inR i l.length with
 | true=>l[i.toNat]?
 | false=>none
def a8L (l:List α) (a b:Int):Option (List α):=match inI a b l.length with
 | true=>some ((l.take b.toNat).drop a.toNat)
 | false=>none
def app (bytes:Nat) (l m:List α):Option (List α):=match leN ((l.length + m.length) * (bytes + 1)) 70368744177664 with
 | true=>some (l ++ m)
 | false=>none
theorem idx'_inv {l:List α} {i:Int} {x:α} (h:idx' l i = some x):inR i l.length = true /\ l[i.toNat]? = some x:=by
 unfold idx' at h
 cases hc:inR i l.length with
 | true=>rw [hc] at h; exact ⟨rfl,h⟩
 | false=>rw [hc] at h; cases h
theorem subL_inv {l x:List α} {a b:Int} (h:a8L l a b = some x):inI a b l.length = true /\ (l.take b.toNat).drop a.toNat = x:=by
 unfold a8L at h
 cases hc:inI a b l.length with
 | true=>rw [hc] at h; exact ⟨rfl,Option.some.inj h⟩
 | false=>rw [hc] at h; cases h
theorem b0a {bytes:Nat} {l m x:List α} (h:app bytes l m = some x):(l.length + m.length) * (bytes + 1) <= 70368744177664 /\ l ++ m = x:=by
 unfold app at h
 cases hc:leN ((l.length + m.length) * (bytes + 1)) 70368744177664 with
 | true=>rw [hc] at h; exact ⟨by simpa [leN] using hc,Option.some.inj h⟩
 | false=>rw [hc] at h; cases h
end
structure a0n {α:Type} (sz:Nat) (c1:α -> List V) (cl:List α -> List V):Prop where
 len:∀ x,(c1 x).length = sz
 nil:cl [] = []
 cons:∀ x r,cl (x :: r) = c1 x ++ cl r
section
variable {α:Type} {sz:Nat} {c1:α -> List V} {cl:List α -> List V}
theorem a0n.append (h:a0n sz c1 cl):∀ a b:List α,cl (a ++ b) = cl a ++ cl b
 | [],b=>by rw [h.nil]; rfl
 | x :: a,b=>by rw [List.cons_append,h.cons,h.cons,h.append a b,List.append_assoc]
theorem a0n.length (h:a0n sz c1 cl):∀ a:List α,(cl a).length = a.length * sz
 | []=>by rw [h.nil]; simp
 | x :: a=>by rw [h.cons,List.length_append,h.len,h.length a,List.length_cons,Nat.succ_mul,Nat.add_comm]
theorem a0n.drop (h:a0n sz c1 cl):∀ (k:Nat) (a:List α),(cl a).drop (k * sz) = cl (a.drop k)
 | 0,a=>by simp
 | k + 1,[]=>by simp [h.nil]
 | k + 1,x :: a=>by
  rw [h.cons,Nat.succ_mul,Nat.add_comm,<- List.drop_drop]
  rw [List.drop_left' (h.len x),h.drop k a]; rfl
theorem a0n.take (h:a0n sz c1 cl):∀ (k:Nat) (a:List α),(cl a).take (k * sz) = cl (a.take k)
 | 0,a=>by simp [h.nil]
 | k + 1,[]=>by simp [h.nil]
 | k + 1,x :: a=>by
  rw [h.cons,Nat.succ_mul,Nat.add_comm,List.take_append,List.take_of_length_le (by rw [h.len]; omega),h.len,show sz + k * sz - sz = k * sz from by omega,h.take k a,List.take_succ_cons,h.cons]
theorem a0n.at (h:a0n sz c1 cl) {l:List α} {i:Nat} {x:α} (hx:l[i]? = some x):(cl l).drop (i * sz) = c1 x ++ cl (l.drop (i + 1)):=by
 rw [h.drop]
 have hi:i < l.length:=by
  rcases Nat.lt_or_ge i l.length with h1 | h1
  ·exact h1
  ·rw [List.getElem?_eq_none h1] at hx; cases hx
 rw [List.drop_eq_getElem_cons hi,h.cons]
 rw [List.getElem?_eq_getElem hi] at hx
 cases hx; rfl
end
def tpe (sz:Nat):Nat -> Nat
 | 0=>0
 | _ + 1=>sz
def clS:List Str -> List V:=List.map V.str
theorem encS:a0n 1 (fun s:Str=>[V.str s]) clS:=⟨fun _=>rfl,rfl,fun _ _=>rfl⟩
section
variable {env:Env} {orc:Orc} {f nr:Nat} {ops:Array Oper} {o:Oper} {rest:List Oper} {fr fr1:Fr} {H H1:Hp} {K:Res -> Prop}
theorem a5i {α:Type} {sz:Nat} {c1:α -> List V} {cl:List α -> List V} (he:a0n sz c1 cl) {l:List α} {i:Int} {x:α} {k:IntKind} {t e:Nat} {a b:Operand} {ow:Own} {y ye:Ty} (hx:idx' l i = some x) (hw:o6 ops o fr = some true) (ho:o.op = .indexAddr t a b)
  (ha:ev fr a = some (.slice ow l.length (cl l))) (hb:ev fr b = some (.int k i)) (h1:G5 t env.T = some y) (h2:y.sh = .slice e) (h3:G5 e env.T = some ye) (h4:ye.size = sz)
  (h:Os env orc ops rest (K8 o.dst (.cptr (c1 x ++ cl (l.drop (i.toNat + 1)))) fr) H K):Os env orc ops (o :: rest) fr H K:=by
 have hp:F6 o.op = true:=by rw [ho]; rfl
 obtain ⟨g1,g2⟩:=idx'_inv hx
 refine a8q hw hp ?_ h
 rw [ho]
 simp only [J7,ha,hb,a3x,h1,h2,h3,h4,g1,gd,he.at g2]
theorem b24 {α:Type} {sz:Nat} {c1:α -> List V} {cl:List α -> List V} (he:a0n sz c1 cl) {l x:List α} {i j:Int} {t e:Nat} {ow:Own} {a:Operand} {lo hi:Option Operand} {l' h':Option V} {y ye:Ty} (hx:a8L l i j = some x) (hw:o6 ops o fr = some true) (ho:o.op = .slice t a lo hi none)
  (ha:ev fr a = some (.slice ow l.length (cl l))) (hl:evX fr lo = some l') (hh:evX fr hi = some h') (hi':bnd l' 0 = some i) (hj':bnd h' l.length = some j) (h1:G5 t env.T = some y) (h2:y.sh = .slice e) (h3:G5 e env.T = some ye) (h4:ye.size = sz) (hq:(l'.isSome || h'.isSome) = true)
  (h:Os env orc ops rest (K8 o.dst (.slice .sealed x.length (cl x)) fr) H K):Os env orc ops (o :: rest) fr H K:=by
 have hp:F6 o.op = true:=by rw [ho]; rfl
 obtain ⟨g1,rfl⟩:=subL_inv hx
 subst h4
 refine a8q hw hp ?_ h
 rw [ho]
 have hx0:evX fr none = some none:=rfl
 have hlen:((l.take j.toNat).drop i.toNat).length = j.toNat - i.toNat:=by
  have:=g1
  simp only [inI,Bool.and_eq_true,decide_eq_true_eq] at this
  rw [List.length_drop,List.length_take]
  omega
 rw [hlen,<- he.drop,<- he.take]
 cases l' with
 | none=>cases h' with
  | none=>cases hq
  | some q=>simp only [J7,ha,hl,hh,hx0,a8T,h1,h2,h3,hi',hj',g1,gd]
 | some q=>simp only [J7,ha,hl,hh,hx0,a8T,h1,h2,h3,hi',hj',g1,gd]
theorem os_app {α:Type} {sz:Nat} {c1:α -> List V} {cl:List α -> List V} (he:a0n sz c1 cl) {l m x:List α} {bytes:Nat} {args:Array Operand} {at_:Array TypeId} {a b:Operand} {t xt e g:Nat} {y yx ye:Ty} {v:V} (hx:app bytes l m = some x)
  (hw:o6 ops o fr = some true) (ho:o.op = .call ⟨.builtin .append,args,at_⟩)
  (ha:args.toList = [a,b]) (ht:at_.toList = [t,xt]) (hs:ev fr a = some (.slice (.tag g) l.length (cl l))) (hv:ev fr b = some v)
  (h1:G5 t env.T = some y) (h2:G5 xt env.T = some yx) (h3:y.sh = .slice e) (h4:a6O yx.sh = true) (h5:G5 e env.T = some ye) (h6:ye.size = sz) (h7:ye.bytes = bytes) (h8:Nat.beq sz 0 = false)
  (h9:a5Z env.T e v H = some (m.length,cl m)) (hm:Nat.beq m.length 0 = false) (h10:hget g H = some (.tip (tpe sz l.length) l.length)) (hH:a0k (some (hset g (.tip (tpe sz x.length) x.length) H)) = some H1)
  (h:Os env orc ops rest (K8 o.dst (.slice (.tag g) x.length (cl x)) fr) H1 K):Os env orc ops (o :: rest) fr H K:=by
 have hp:F6 o.op = false:=by rw [ho]; rfl
 obtain ⟨g1,rfl⟩:=b0a hx
 rw [a0A,Option.some.injEq] at hH
 subst hH h6 h7
 have hw2:tpe ye.size l.length = 0 ∨ tpe ye.size l.length = ye.size:=by cases l.length <;> simp [tpe]
 have ht2:tpe ye.size (l ++ m).length = ye.size:=by
  rw [List.length_append]
  cases m with
  | nil=>simp at hm
  | cons z m=>rw [List.length_cons,<- Nat.add_assoc]; rfl
 refine a1z hw hp ?_ h
 unfold H8
 rw [ho]
 simp only [ha,ht,hs,hv]
 rw [b2C h1 h2 h3 h4 h5 h9 hm h10 hw2 h8 (he.length l).symm g1,ht2,he.append,List.length_append]
theorem os_appD {α:Type} {sz:Nat} {c1:α -> List V} {cl:List α -> List V} (he:a0n sz c1 cl) {l m x:List α} {bytes:Nat} {args:Array Operand} {at_:Array TypeId} {a b:Operand} {t xt e g:Nat} {y yx ye:Ty} {v:V} (hx:app bytes l m = some x)
  (hw:o6 ops o fr = some true) (ho:o.op = .call ⟨.builtin .append,args,at_⟩)
  (ha:args.toList = [a,b]) (ht:at_.toList = [t,xt]) (hs:ev fr a = some (.slice (.tag g) l.length (cl l))) (hv:ev fr b = some v)
  (h1:G5 t env.T = some y) (h2:G5 xt env.T = some yx) (h3:y.sh = .slice e) (h4:a6O yx.sh = true) (h5:G5 e env.T = some ye) (h6:ye.size = sz) (h7:ye.bytes = bytes) (h8:Nat.beq sz 0 = false)
  (h9:a5Z env.T e v H = some (m.length,cl m)) (h10:hget g H = some (.tip (tpe sz l.length) l.length)) (hS:a0k (some (hset g (.tip (tpe sz l.length) l.length) H)) = some H) (hH:a0k (some (hset g (.tip (tpe sz x.length) x.length) H)) = some H1)
  (h:Os env orc ops rest (K8 o.dst (.slice (.tag g) x.length (cl x)) fr) H1 K):Os env orc ops (o :: rest) fr H K:=by
 by_cases hm:m = []
 ·subst hm
  have hp:F6 o.op = false:=by rw [ho]; rfl
  obtain ⟨g1,rfl⟩:=b0a hx
  rw [a0A,Option.some.injEq] at hH hS
  rw [List.append_nil] at hH h
  rw [hS] at hH
  subst hH
  refine a1z hw hp ?_ h
  unfold H8
  rw [ho]
  simp only [ha,ht,hs,hv]
  unfold a2g
  simp only [h1,h2,h3,h4,h5,h9,List.length_nil,Nat.beq]
 ·refine os_app he hx hw ho ha ht hs hv h1 h2 h3 h4 h5 h6 h7 h8 h9 ?_ h10 hH h
  cases m with
  | nil=>exact absurd rfl hm
  | cons z m=>rfl
theorem b23 {α:Type} {sz:Nat} {c1:α -> List V} {cl:List α -> List V} (he:a0n sz c1 cl) {l m x:List α} {bytes:Nat} {args:Array Operand} {at_:Array TypeId} {a b:Operand} {t xt e:Nat} {ow:Own} {y yx ye:Ty} {v:V} (hx:app bytes l m = some x)
  (hw:o6 ops o fr = some true) (ho:o.op = .call ⟨.builtin .append,args,at_⟩)
  (ha:args.toList = [a,b]) (ht:at_.toList = [t,xt]) (how:ow = .nil ∨ ow = .full) (hs:ev fr a = some (.slice ow l.length (cl l))) (hv:ev fr b = some v)
  (h1:G5 t env.T = some y) (h2:G5 xt env.T = some yx) (h3:y.sh = .slice e) (h4:a6O yx.sh = true) (h5:G5 e env.T = some ye) (h6:ye.size = sz) (h7:ye.bytes = bytes) (h8:Nat.beq sz 0 = false)
  (h9:a5Z env.T e v H = some (m.length,cl m)) (hm:Nat.beq m.length 0 = false) (h10:hget (newName o) H = none) (hH:a0k (some (hset (newName o) (.tip (tpe sz x.length) x.length) H)) = some H1)
  (h:Os env orc ops rest (K8 o.dst (.slice (.tag (newName o)) x.length (cl x)) fr) H1 K):Os env orc ops (o :: rest) fr H K:=by
 have hp:F6 o.op = false:=by rw [ho]; rfl
 obtain ⟨g1,rfl⟩:=b0a hx
 rw [a0A,Option.some.injEq] at hH
 subst hH h6 h7
 have ht2:tpe ye.size (l ++ m).length = ye.size:=by
  rw [List.length_append]
  cases m with
  | nil=>simp at hm
  | cons z m=>rw [List.length_cons,<- Nat.add_assoc]; rfl
 refine a1z hw hp ?_ h
 unfold H8
 rw [ho]
 simp only [ha,ht,hs,hv]
 unfold a2g
 have h11:Nat.beq ye.size 0 = false:=h8
 rw [List.length_append] at ht2
 rcases how with rfl | rfl <;>
  simp only [h1,h2,h3,h4,h5,h9,hm,h10,h11,a0z (he.length l).symm,a8c g1,Bool.not_false,Bool.and_self,gd,ht2,he.append,List.length_append]
theorem os_callP {g:Nat} {args:Array Operand} {at_:Array TypeId} {l:List V} {v:V} (hw:o6 ops o fr = some true) (ho:o.op = .call ⟨.value (.func g),args,at_⟩)
  (hl:evL fr args.toList = some l) (hc:P7 env orc (newName o) g l H = some (.pan v H1))
  (h:K (.panic v,fr,H1)):Os env orc ops (o :: rest) fr H K:=by
 have hp:F6 o.op = false:=by rw [ho]; rfl
 refine ⟨_,?_,h⟩
 simp only [p8,hw,D5,hp]
 unfold H8
 rw [ho]
 simp only [ev,hl,List.nil_append,List.append_nil,hc]
theorem os_panic {x:Operand} {t:Nat} {v:V} (hw:o6 ops o fr = some true) (ho:o.op = .panic x) (hx:ev fr x = some (.iface t v)) (h:K (.panic (.iface t v),fr,H)):Os env orc ops (o :: rest) fr H K:=by
 have hp:F6 o.op = false:=by rw [ho]; rfl
 refine ⟨_,?_,h⟩
 simp only [p8,hw,D5,hp]
 unfold H8
 rw [ho]
 simp only [hx]
def segK (env:Env) (f nr id:Nat) (F:Fr) (G:Hp) (K:Res -> Prop):Res -> Prop
 | (.normal,fr,H)=>normal env f nr (id + 100000) fr H = some (F,G)
 | r=>K r
theorem a6m {a b:Code} (F:Fr) (G:Hp) (hc:env.cut f (a0o b) = true) (hA:Ev env orc f nr a fr H (segK env f nr (a0o b) F G K)) (hB:Ev env orc f nr b F G K):Ev env orc f nr (.seq a b) fr H K:=by
 refine ev_cut hc ?_
 obtain ⟨⟨e,fr1,H1⟩,h1,h2⟩:=hA
 refine ⟨_,h1,?_⟩
 cases e with
 | normal=>exact ⟨_,_,h2,hB⟩
 | _=>exact h2
def segL {α ρ:Type} (env:Env) (f nr id:Nat) (y:Lr α ρ) (F:α -> Fr) (G:α -> Hp) (KR:ρ -> Res -> Prop):Res -> Prop
 | (.normal,fr,H)=>∃ x,y = .brk x /\ normal env f nr (id + 100000) fr H = some (F x,G x)
 | r=>∃ z,y = .out z /\ KR z r
theorem a2Z {α ρ:Type} {a b:Code} {KR:ρ -> Res -> Prop} (y:Lr α ρ) (F:α -> Fr) (G:α -> Hp) (hc:env.cut f (a0o b) = true) (hA:Ev env orc f nr a fr H (segL env f nr (a0o b) y F G KR))
  (hB:∀ x,y = .brk x -> Ev env orc f nr b (F x) (G x) K) (hR:∀ z r,y = .out z -> KR z r -> r.1 ≠ .normal -> K r):Ev env orc f nr (.seq a b) fr H K:=by
 refine ev_cut hc ?_
 obtain ⟨⟨e,fr1,H1⟩,h1,h2⟩:=hA
 refine ⟨_,h1,?_⟩
 cases e with
 | normal=>obtain ⟨x,h3,h4⟩:=h2; exact ⟨_,_,h4,hB x h3⟩
 | ret=>obtain ⟨z,h3,h4⟩:=h2; exact hR z _ h3 h4 (fun h=>by cases h)
 | exit i=>obtain ⟨z,h3,h4⟩:=h2; exact hR z _ h3 h4 (fun h=>by cases h)
 | panic v=>obtain ⟨z,h3,h4⟩:=h2; exact hR z _ h3 h4 (fun h=>by cases h)
def OsP (env:Env) (orc:Orc) (L sl:List Nat) (ops:Array Oper) (l:List Oper) (fr:Fr) (H:Hp) (K:Res -> Prop):Prop:=∃ r,u6 env orc L sl ops l fr H = some r /\ K r
def onceK (env:Env) (orc:Orc) (L sl:List Nat) (ops:Array Oper) (l:List Oper) (K:Res -> Prop):Res -> Prop
 | (.normal,fr,H)=>OsP env orc L sl ops l fr H K
 | r=>K r
theorem a4w {L sl:List Nat} (h:K (.normal,fr,H)):OsP env orc L sl ops [] fr H K:=⟨_,rfl,h⟩
theorem osP_skip {L sl:List Nat} (hw:o6 ops o fr = some false) (h:OsP env orc L sl ops rest (K8 o.dst (.tuple []) fr) H K):OsP env orc L sl ops (o :: rest) fr H K:=by
 obtain ⟨r,h1,h2⟩:=h; exact ⟨r,by simp only [u6,hw]; exact h1,h2⟩
theorem a0r {L sl:List Nat} (hp:R9 env L sl fr H o = true) (h:Os env orc ops [o] fr H (onceK env orc L sl ops rest K)):OsP env orc L sl ops (o :: rest) fr H K:=by
 obtain ⟨r,h1,h2⟩:=h
 simp only [p8] at h1
 cases hw:o6 ops o fr with
 | none=>rw [hw] at h1; cases h1
 | some b =>
  rw [hw] at h1
  cases b with
  | false =>
   simp only [Option.some.injEq] at h1
   subst h1
   exact osP_skip hw h2
  | true =>
   simp only at h1
   cases hs:D5 env orc fr H o with
   | none=>rw [hs] at h1; cases h1
   | some x =>
    rw [hs] at h1
    cases x with
    | val v H1 =>
     simp only [Option.some.injEq] at h1
     subst h1
     obtain ⟨r,h3,h4⟩:=h2
     exact ⟨r,by simp only [u6,hw,hp,hs]; exact h3,h4⟩
    | pan v H1 =>
     simp only [Option.some.injEq] at h1
     subst h1
     exact ⟨_,by simp only [u6,hw,hp,hs],h2⟩
def sepK (nr:Nat) (ops:Array Oper) (L sl:List Nat) (K:Res -> Prop):Res -> Prop
 | (.normal,fr,H)=>a2q sl fr = some L /\ K (.normal,fr,H)
 | (.panic v,fr,H)=>a2q sl fr = some L /\ a99 (a0w ops.toList) H = true /\ ∃ v' H',finish nr v H = some (v',H') /\ K (.panic v',[],H')
 | _=>False
theorem a0Z {id:Nat} {d:Bool} {S sl:List Nat} (L:List Nat) (hs:a5U env f id d = some (S,sl)) (h:OsP env orc L sl ops (a1S ops S) fr H (sepK nr ops L sl K)):Ev env orc f nr (.region id ops d) fr H K:=by
 obtain ⟨⟨e,fr1,H1⟩,h1,h2⟩:=h
 have h3:=a1e h1
 unfold Ev
 simp only [l5,hs]
 cases e with
 | normal =>
  obtain ⟨g1,g2⟩:=h2
  exact ⟨_,by simp only [a0v,h3,g1,h1],g2⟩
 | panic v =>
  obtain ⟨g1,g2,v',H',g3,g4⟩:=h2
  exact ⟨_,by simp only [a0v,h3,g1,h1,g2,g3],g4⟩
 | ret=>exact h2.elim
 | exit i=>exact h2.elim
theorem a3h {σ ρ:Type} {body:Code} (g:Nat -> σ -> Option ρ) (F:σ -> Fr) (G:σ -> Hp) (KK:ρ -> Res -> Prop) (h0:∀ x,g 0 x = none)
  (round:∀ m x y,(∀ x' y',g m x' = some y' -> Lp env f nr body (F x') (G x') (KK y')) -> g (m + 1) x = some y -> Ev env (E env) f nr body (F x) (G x) (b0E env f nr body (KK y))) :
  ∀ m x y,g m x = some y -> Lp env f nr body (F x) (G x) (KK y)
 | 0,x,y,h=>by rw [h0] at h; cases h
 | m + 1,x,y,h=>b1g (round m x y (fun x' y' h'=>a3h g F G KK h0 round m x' y' h') h)
theorem a2H {t:Nat} {a:Operand} {cs c r:List V} {y:Ty} (hw:o6 ops o fr = some true) (ho:o.op = .load t a) (ha:ev fr a = some (.cptr cs)) (hs:cs = c ++ r) (h1:G5 t env.T = some y) (h2:N9 y.sh = true) (h3:c.length = y.size)
  (h:Os env orc ops rest (K8 o.dst (.agg c) fr) H K):Os env orc ops (o :: rest) fr H K:=by
 refine a5J hw ho ha ?_ h
 subst hs
 have:leN c.length (c ++ r).length = true:=a8c (by rw [List.length_append]; omega)
 simp only [Z4,h1,h2,<- h3,this,gd,List.take_left]
theorem os_callF {g:Nat} {f:Operand} {args:Array Operand} {at_:Array TypeId} {l a c:List V} {v:V} (hw:o6 ops o fr = some true) (ho:o.op = .call ⟨.value f,args,at_⟩) (hf:ev fr f = some (.func (.func g) a c))
  (hl:evL fr args.toList = some l) (hc:P7 env orc (newName o) g (a ++ l ++ c) H = some (.val v H1))
  (h:Os env orc ops rest (K8 o.dst v fr) H1 K):Os env orc ops (o :: rest) fr H K:=by
 have hp:F6 o.op = false:=by rw [ho]; rfl
 refine a1z hw hp (v:=v) (H1:=H1) ?_ h
 unfold H8
 rw [ho]
 simp only [hf,hl,hc]
@[reducible] def w64 (x:Int):Int:=IntKind.wrap .i64 x
end
end Go.Vm
namespace Go.Vm
@[reducible] def V.i (x:Int):V:=.int .i64 x
@[reducible] def V.sl {α:Type} (f:List α -> List V) (x:List α):V:=.slice .sealed (List.length x) (f x)
@[reducible] def V.st {α:Type} (g:Nat) (f:List α -> List V) (x:List α):V:=.slice (.tag g) (List.length x) (f x)
@[reducible] def c0 (a:Int) (b:List UInt8) (c d:Int) (e:List UInt8) (f:Int) (g h i:V) (j:Int):List V:=[.int .i64 a,.str b,.int .i64 c,.int .i64 d,.str e,.int .i64 f,g,h,i,.int .i64 j]
@[reducible] def hR {α:Type} (f:List α -> List V) (l:List α) (a b c:Int):Hp:=[(0,.row [.slice .sealed (List.length l) (f l),.int .i64 a,.int .i64 b,.int .i64 c])]
@[reducible] def hP {α:Type} (f:List α -> List V) (l:List α) (a b:Int):Hp:=[(0,.row [.slice .sealed (List.length l) (f l),.int .i64 a,.int .i64 b])]
section
variable {env:Env} {orc:Orc} {f nr:Nat} {ops:Array Oper} {o:Oper} {rest rest':List Oper} {fr fr1 fr':Fr} {H H1 H':Hp} {r:Option Res} {v:V} {K:Res -> Prop}
def auto (env:Env) (orc:Orc) (ops:Array Oper):Nat -> List Oper -> Fr -> Hp -> Option (List Oper × Fr × Hp)
 | 0,rest,fr,H=>some (rest,fr,H)
 | _ + 1,[],fr,H=>none
 | k + 1,o :: rest,fr,H=>match o6 ops o fr with
  | none=>none
  | some false=>auto env orc ops k rest (K8 o.dst (.tuple []) fr) H
  | some true=>match F6 o.op with
   | true=>match a0B (J7 env.T fr o.op) with
    | some v=>auto env orc ops k rest (K8 o.dst v fr) H
    | none=>none
   | false=>match b0t (H8 env orc fr H o) with
    | some (.val v H1)=>auto env orc ops k rest (K8 o.dst v fr) H1
    | _=>none
theorem oA:∀ (k:Nat) {rest:List Oper} {fr:Fr} {H:Hp} (h:auto env orc ops k rest fr H = some (rest',fr',H')) (h2:Os env orc ops rest' fr' H' K),Os env orc ops rest fr H K
 | 0,rest,fr,H,h,h2=>by cases h; exact h2
 | k + 1,[],fr,H,h,h2=>by cases h
 | k + 1,o :: rest,fr,H,h,h2=>by
  simp only [auto] at h
  split at h
  ·cases h
  ·rename_i hw
   exact os_skip hw (oA k h h2)
  ·rename_i hw
   split at h
   ·rename_i hp
    split at h
    ·rename_i v hv
     exact u7 hw hp hv (oA k h h2)
    ·cases h
   ·rename_i hp
    split at h
    ·rename_i v H1 hv
     exact os_eff hw hp hv (oA k h h2)
    ·cases h
theorem oV {g:Nat} {args:Array Operand} {at_:Array TypeId} {l ac:List V} {ns:List Nat} {H3 H4 Hc:Hp} {v v4:V} (hc:orc (.call g ac) Hc = some (.ret v H3)) (h:Os env orc ops rest (K8 o.dst v4 fr) H4 K)
  (hw:o6 ops o fr = some true:=by exact rfl) (ho:o.op = .call ⟨.value (.func g),args,at_⟩:=by exact rfl)
  (hl:evL fr args.toList = some l:=by exact rfl) (hq:(env.quiet g || env.look g) = false:=by exact rfl) (hp:a2V env g l H = some (ns,ac,Hc):=by exact rfl) (h7:a3b (P6 (C9 ns (newName o)) dep v) = some v4:=by exact rfl)
  (h8:a0k (R4 (C9 ns (newName o)) H3 H) = some H4:=by exact rfl) (h9:a00 H H3 (newName o) ns.length = true:=by exact rfl):Os env orc ops (o :: rest) fr H K :=
 a7y hw ho hl (a2X hq hp hc h7 h8 h9) h
theorem oW {g:Nat} {args:Array Operand} {at_:Array TypeId} {l ac:List V} {ns:List Nat} {H3 H4 Hc:Hp} {v v4:V} (hc:orc (.call g ac) Hc = some (.pan v H3)) (h:K (.panic v4,fr,H4))
  (hw:o6 ops o fr = some true:=by exact rfl) (ho:o.op = .call ⟨.value (.func g),args,at_⟩:=by exact rfl)
  (hl:evL fr args.toList = some l:=by exact rfl) (hq:(env.quiet g || env.look g) = false:=by exact rfl) (hp:a2V env g l H = some (ns,ac,Hc):=by exact rfl) (h7:a3b (P6 (C9 ns (newName o)) dep v) = some v4:=by exact rfl)
  (h8:a0k (R4 (C9 ns (newName o)) H3 H) = some H4:=by exact rfl) (h9:a00 H H3 (newName o) ns.length = true:=by exact rfl):Os env orc ops (o :: rest) fr H K :=
 os_callP hw ho hl (b0O hq hp hc h7 h8 h9) h
theorem oB (k:Nat) {rest:List Oper} {fr:Fr} {H:Hp} (h:auto env orc ops k rest fr H = some ([],fr',H')) (h2:K (.normal,fr',H')):Os env orc ops rest fr H K:=oA k h (D6 h2)
theorem oD (h:Os env orc ops rest (K8 o.dst v fr) H K) (hw:o6 ops o fr = some true:=by exact rfl) (hp:F6 o.op = true:=by exact rfl) (hv:a3b (J7 env.T fr o.op) = some v:=by exact rfl):Os env orc ops (o :: rest) fr H K:=os_pureD hw hp hv h
theorem oC {L sl:List Nat} (hp:R9 env L sl fr H o = true) (ha:auto env orc ops 1 [o] fr H = some ([],fr',H')) (h:onceK env orc L sl ops rest K (.normal,fr',H')):OsP env orc L sl ops (o :: rest) fr H K:=a0r hp (oB 1 ha h)
theorem oP {α:Type} {sz:Nat} {c1:α -> List V} {cl:List α -> List V} (he:a0n sz c1 cl) {l m x:List α} {bytes:Nat} {args:Array Operand} {at_:Array TypeId} {a b:Operand} {t xt e g:Nat} {y yx ye:Ty} {v:V} (hx:app bytes l m = some x)
  (h:Os env orc ops rest (K8 o.dst (.slice (.tag g) x.length (cl x)) fr) H1 K)
  (hw:o6 ops o fr = some true:=by exact rfl) (ho:o.op = .call ⟨.builtin .append,args,at_⟩:=by exact rfl)
  (ha:args.toList = [a,b]:=by exact rfl) (ht:at_.toList = [t,xt]:=by exact rfl) (hs:ev fr a = some (.slice (.tag g) l.length (cl l)):=by exact rfl) (hv:ev fr b = some v:=by exact rfl)
  (h1:G5 t env.T = some y:=by exact rfl) (h2:G5 xt env.T = some yx:=by exact rfl) (h3:y.sh = .slice e:=by exact rfl) (h4:a6O yx.sh = true:=by exact rfl) (h5:G5 e env.T = some ye:=by exact rfl) (h6:ye.size = sz:=by exact rfl) (h7:ye.bytes = bytes:=by exact rfl) (h8:Nat.beq sz 0 = false:=by exact rfl)
  (h9:a5Z env.T e v H = some (m.length,cl m):=by exact (a7R (a0z rfl) rfl)) (hm:Nat.beq m.length 0 = false:=by exact rfl) (h10:hget g H = some (.tip (tpe sz l.length) l.length):=by exact rfl) (hH:a0k (some (hset g (.tip (tpe sz x.length) x.length) H)) = some H1:=by exact rfl):Os env orc ops (o :: rest) fr H K :=
 os_app he hx hw ho ha ht hs hv h1 h2 h3 h4 h5 h6 h7 h8 h9 hm h10 hH h
theorem eI {c:Operand} {a b:Code} {t:Bool} {γ:Type} {X Y:γ} {z:γ} (hc:ev fr c = some (.bool t)) (h:cond t X Y = z) (h1:X = z -> Ev env orc f nr a fr H K) (h2:Y = z -> Ev env orc f nr b fr H K):Ev env orc f nr (.cond c a b) fr H K:=by
 cases t with
 | true=>exact M9 hc rfl (h1 h)
 | false=>exact P8 hc rfl (h2 h)
theorem eSG {id:Nat} {d:Bool} {b:Code} (h:Os env orc ops ops.toList fr H (regK d (thenK env orc f nr b K))) (hc:env.cut f (a0o b) = false:=by rfl) (hb:(d && env.loose f) = false:=by rfl) (hs:a5U env f id d = none:=by rfl):Ev env orc f nr (.seq (.region id ops d) b) fr H K:=w9 (j6 h hb hs) hc
end
end Go.Vm
namespace Go.Proofs.YtamfchbgonekeaaGreatDoor
open Go Go.Vm
structure Flt where
 code:Int
 at_:Int
def a9j:List Flt -> List V
 | []=>[]
 | x :: r=>.int .i64 x.code :: .int .i64 x.at_ :: a9j r
structure Typ where
 kind:Int
 name:Str
 n:Int
 args:List Typ
mutual
def Typ.sub:Typ -> List V
 | ⟨_,_,_,a3⟩=>x9 a3
def x9:List Typ -> List V
 | []=>[]
 | x :: r=>.int .i64 x.kind :: .str x.name :: .int .i64 x.n :: .slice .sealed (List.length x.args) (x.sub) :: x9 r
end
def c1Typ (x:Typ):List V:=[.int .i64 x.kind,.str x.name,.int .i64 x.n,.slice .sealed (List.length x.args) (x9 x.args)]
theorem a1n:a0n 4 c1Typ x9:=⟨fun _=>rfl,rfl,fun x r=>by cases x; rfl⟩
structure Tok where
 kind:Int
 text:Str
 at_:Int
 len:Int
def c1Tok (x:Tok):List V:=[.int .i64 x.kind,.str x.text,.int .i64 x.at_,.int .i64 x.len]
def I8:List Tok -> List V
 | []=>[]
 | x :: r=>.int .i64 x.kind :: .str x.text :: .int .i64 x.at_ :: .int .i64 x.len :: I8 r
theorem b0k:a0n 4 c1Tok I8:=⟨fun _=>rfl,rfl,fun _ _=>rfl⟩
structure SParseStop where
 fault:Flt
end Go.Proofs.YtamfchbgonekeaaGreatDoor
namespace Go.Vm
def eqV1:V -> V -> Bool
 | .bool a,.bool b=>decide (a = b)
 | .int j a,.int k b=>decide (j = k) && decide (a = b)
 | .str a,.str b=>decide (a = b)
 | .nilptr,.nilptr=>true
 | .slice .nil 0 [],.slice .nil 0 []=>true
 | .nilFunc,.nilFunc=>true
 | .nilIface,.nilIface=>true
 | .opq,.opq=>true
 | _,_=>false
theorem eqV1_ok {a b:V} (h:eqV1 a b = true):a = b:=by
 unfold eqV1 at h
 split at h <;> first | rfl | cases h | (simp at h; simp [h])
def eqVs1:List V -> List V -> Bool
 | [],[]=>true
 | a :: r,b :: s=>eqV1 a b && eqVs1 r s
 | _,_=>false
theorem b0V:∀ {a b:List V},eqVs1 a b = true -> a = b
 | [],[],_=>rfl
 | a :: r,b :: s,h=>by
  simp only [eqVs1,Bool.and_eq_true] at h
  rw [eqV1_ok h.1,b0V h.2]
 | [],_ :: _,h=>by cases h
 | _ :: _,[],h=>by cases h
def isAggV:Value -> Bool
 | .agg _=>true
 | _=>false
def infoB (P:Program) (t:Nat) (y:Ty):Bool :=
 match P.info? t with
 | none=>false
 | some i=>match i.zero with
  | none=>false
  | some z=>decide (i.size = y.size) && decide (i.bytes = y.bytes) && (match N7 a3i z.cells.toList with | some l=>eqVs1 l y.zero | none=>false) && decide (z.cells.size = y.size) && decide (isAggV z = N9 y.sh)
def shB (P:Program) (t:Nat):Sh -> Bool
 | .bool=>match P.underlying t with | some .bool=>true | _=>false
 | .string=>match P.underlying t with | some .string=>true | _=>false
 | .int k=>match P.underlying t with | some (.int j)=>decide (j = k) | _=>false
 | .ptr e=>match P.underlying t with | some (.pointer j)=>decide (j = e) | _=>false
 | .slice e=>match P.underlying t with | some (.slice j)=>decide (j = e) | _=>false
 | .array n e=>match P.underlying t with | some (.array m j)=>decide (m = n) && decide (j = e) | _=>false
 | .struct fs=>match P.underlying t with
  | some (.struct l)=>!P.stoodInHeld t && decide ((l.toList.map fun f=>(f.type,f.offset)) = fs) && l.toList.all (fun f=>decide (f.name ≠ "_")) && l.toList.all (fun f=>(P.info? f.type).isSome)
  | _=>false
 | .iface=>match P.underlying t with | some (.interface _)=>true | _=>false
 | .func=>match P.underlying t with | some (.func ..)=>true | _=>false
 | .other=>(P.underlying t).isSome
def b1m (P:Program) (t:Nat) (s:Sh):Bool :=
 match P.underlying t with
 | none=>false
 | some d=>(N9 s || (match d with | .struct _ | .array ..=>false | _=>true)) && (match s,d with | .iface,_=>true | _,.interface _=>false | _,_=>true) &&
  (match s with | .iface | .array ..=>true | _=>!P.eqGuardType P.depth t)
def tyB (P:Program) (t:Nat) (y:Ty):Bool:=infoB P t y && shB P t y.sh && b1m P t y.sh
theorem b0P {z:Value} (h:isAggV z = false):z.cells = #[z]:=by cases z <;> first | rfl | cases h
theorem tyB_ok {P:Program} {t:Nat} {y:Ty} (h:tyB P t y = true):TyOk P t y:=by
 simp only [tyB,Bool.and_eq_true] at h
 obtain ⟨⟨h1,h2⟩,h3⟩:=h
 refine ⟨?_,?_,?_,?_,?_,?_⟩
 ·unfold infoB at h1
  split at h1
  ·cases h1
  ·rename_i i hi
   split at h1
   ·cases h1
   ·rename_i z hz
    simp only [Bool.and_eq_true,decide_eq_true_eq] at h1
    obtain ⟨⟨⟨⟨g1,g2⟩,g3⟩,g4⟩,g5⟩:=h1
    split at g3
    ·rename_i l hl
     have:=b0V g3
     subst this
     refine ⟨i,z,hi,g1,g2,hz,hl,g4,fun ha=>?_,fun ha=>b0P (g5.trans ha)⟩
     rw [ha] at g5
     cases z <;> first | exact ⟨_,rfl⟩ | cases g5
    ·cases g3
 ·unfold shB at h2
  split at h2 <;> rename_i hs <;> simp only [hs]
  ·split at h2 <;> first | assumption | cases h2
  ·split at h2 <;> first | assumption | cases h2
  ·split at h2
   ·rename_i hu; simp only [decide_eq_true_eq] at h2; subst h2; exact hu
   ·cases h2
  ·split at h2
   ·rename_i hu; simp only [decide_eq_true_eq] at h2; subst h2; exact hu
   ·cases h2
  ·split at h2
   ·rename_i hu; simp only [decide_eq_true_eq] at h2; subst h2; exact hu
   ·cases h2
  ·split at h2
   ·rename_i hu; simp only [Bool.and_eq_true,decide_eq_true_eq] at h2; obtain ⟨rfl,rfl⟩:=h2; exact hu
   ·cases h2
  ·split at h2
   ·rename_i l hu
    simp only [Bool.and_eq_true,Bool.not_eq_true',decide_eq_true_eq] at h2
    obtain ⟨⟨⟨g1,g2⟩,g3⟩,g4⟩:=h2
    exact ⟨g1,l,hu,g2,by simpa using g3,g4⟩
   ·cases h2
  ·split at h2
   ·rename_i ms hu; exact ⟨ms,hu⟩
   ·cases h2
  ·split at h2
   ·rename_i a b c hu; exact ⟨a,b,c,hu⟩
   ·cases h2
 ·intro ha d hd
  unfold b1m at h3
  rw [hd] at h3
  simp only [ha,Bool.false_or,Bool.and_eq_true] at h3
  obtain ⟨⟨g,_⟩,_⟩:=h3
  constructor
  ·rintro fs rfl; cases g
  ·rintro n e rfl; cases g
 ·unfold b1m at h3
  split at h3
  ·cases h3
  ·rename_i d hd; exact ⟨d,hd⟩
 ·intro hs ms hu
  unfold b1m at h3
  rw [hu] at h3
  simp only [Bool.and_eq_true] at h3
  obtain ⟨⟨_,g⟩,_⟩:=h3
  cases hy:y.sh <;> rw [hy] at g hs <;> first | exact hs | cases g
 ·intro hs
  unfold b1m at h3
  split at h3
  ·cases h3
  ·simp only [Bool.and_eq_true] at h3
   obtain ⟨_,g⟩:=h3
   cases hy:y.sh <;> rw [hy] at g hs <;> first | exact hs.elim | simpa using g
def tysB (P:Program) (T:List (Nat × Ty)):Bool:=T.all fun p=>tyB P p.1 p.2
theorem a4B {P:Program}:∀ {T:List (Nat × Ty)},tysB P T = true -> TOk P T
 | [],_,t,y,h=>by cases h
 | (s,z) :: r,hb,t,y,h=>by
  simp only [tysB,List.all_cons,Bool.and_eq_true] at hb
  simp only [G5] at h
  split at h
  ·rename_i hs
   cases h
   have:=Nat.eq_of_beq_eq_true hs
   subst this
   exact tyB_ok hb.1
  ·exact a4B hb.2 t y h
def a4Z (env:Env) (l:List Nat):Bool:=l.all fun g=>match env.P.funcs[g]? with
 | none=>true
 | some fn=>!(fn.name == "runtime.NumGoroutine") && match fn.body with
  | none=>true
  | some c=>a0S env g fn.ntmps c
theorem b0Z {k:Nat}:∀ {l:List Nat},has k l = true -> k ∈ l
 | [],h=>by cases h
 | a :: r,h=>by
  simp only [has] at h
  split at h
  ·rename_i hb; rw [Nat.eq_of_beq_eq_true hb]; exact List.mem_cons_self ..
  ·exact List.mem_cons_of_mem _ (b0Z h)
theorem a2u {env:Env} {l:List Nat} (hok:∀ g,env.ok g = true -> has g l = true) (h:a4Z env l = true):∀ g fn c,env.ok g = true -> env.P.funcs[g]? = some fn -> fn.body = some c -> a0S env g fn.ntmps c = true /\ (fn.name == "runtime.NumGoroutine") = false:=by
 intro g fn c h1 h2 h3
 rw [a4Z,List.all_eq_true] at h
 have:=h g (b0Z (hok g h1))
 rw [h2] at this
 simp only [h3,Bool.and_eq_true,Bool.not_eq_true'] at this
 exact ⟨this.2,this.1⟩
end Go.Vm
namespace Go.Proofs.YtamfchbgonekeaaGreatDoor.Sc
open Go Go.Vm
def T:List (Nat × Ty):=[
 (3,⟨.int .i64,1,8,[.i 0]⟩),
 (4,⟨.bool,1,1,[.bool false]⟩),
 (5,⟨.int .u8,1,1,[.int .u8 0]⟩),
 (9,⟨.string,1,16,[.str []]⟩),
 (27,⟨.int .i64,1,8,[.i 0]⟩),
 (29,⟨.struct [(27,0),(3,1)],2,16,[.i 0,.i 0]⟩),
 (46,⟨.slice 93,1,24,[.slice .nil 0 []]⟩),
 (51,⟨.slice 9,1,24,[.slice .nil 0 []]⟩),
 (66,⟨.slice 5,1,24,[.slice .nil 0 []]⟩),
 (83,⟨.ptr 87,1,8,[.nilptr]⟩),
 (85,⟨.struct [(9,0),(3,1)],2,24,[.str [],.i 0]⟩),
 (87,⟨.struct [(85,0),(46,2),(29,3)],5,64,[.str [],.i 0,.slice .nil 0 [],.i 0,.i 0]⟩),
 (93,⟨.struct [(3,0),(9,1),(3,2),(3,3)],4,40,[.i 0,.str [],.i 0,.i 0]⟩),
 (105,⟨.func,1,8,[.nilFunc]⟩),
 (120,⟨.ptr 85,1,8,[.nilptr]⟩),
 (123,⟨.array 32 9,32,512,[.str [],.str [],.str [],.str [],.str [],.str [],.str [],.str [],.str [],.str [],.str [],.str [],.str [],.str [],.str [],.str [],.str [],.str [],.str [],.str [],.str [],.str [],.str [],.str [],.str [],.str [],.str [],.str [],.str [],.str [],.str [],.str []]⟩),
 (125,⟨.array 27 9,27,432,[.str [],.str [],.str [],.str [],.str [],.str [],.str [],.str [],.str [],.str [],.str [],.str [],.str [],.str [],.str [],.str [],.str [],.str [],.str [],.str [],.str [],.str [],.str [],.str [],.str [],.str [],.str []]⟩)]
def keep:Nat -> Nat -> List Nat
 | 42,2=>[0,1,2,7]
 | 66,0=>[0]
 | 70,5=>[0,1,5,6,7,8]
 | 75,3=>[0,3,4]
 | 98,2=>[0,1,5]
 | 102,2=>[0,1,5,6]
 | _,_=>[]
def okL:List Nat:=[20,42,101,103,66,67,68,69,70,71,72,73,74,75,76,96,97,98,99,100,102]
def a5l:List Nat:=[20,101,103,71,73,96,99,100]
noncomputable def env:Env:={ P:=Tryz.prog,T:=T,keep:=keep,byref:=fun f s=>match f,s with   | _,_=>none,meth:=fun _ _=>none,tags:=fun _=>false,argTags:=fun _=>false,quiet:=fun g=>has g a5l,loose:=fun _=>false,intr:=fun _=>none,ok:=fun g=>has g okL }
theorem tys:tysB Tryz.prog T = true:=by kernel_rfl
theorem codes:a4Z env okL = true:=by kernel_rfl
theorem mixed:Tryz.prog.follows .mixedOrders = true:=by kernel_rfl
theorem a8i:a2i env:=by
 intro _ _ _ h
 cases h
theorem b0S:a1Z env:=⟨a8i,a4B tys,mixed,a2u (fun _ h=>h) codes,(fun _ _ h=>by cases h),(fun _ _ _ h=>by cases h)⟩
end Go.Proofs.YtamfchbgonekeaaGreatDoor.Sc
namespace Go.Proofs.YtamfchbgonekeaaGreatDoor.Sc
open Go Go.Vm
def a7N (n:Int):Bool:=leB 48 n && leB n 57
theorem c41I (n:Int):E env (.call 71 [.int .u8 n]) [] = some (.ret (.bool (a7N n)) []):=by
 refine L8 rfl Tryz.func71 rfl rfl ?_
 refine eSG (oB 1 rfl (eSG (oA 3 rfl ?_)))
 refine A8 rfl rfl rfl (fun h1=>?_) (fun h1=>?_)
 ·refine oB 4 rfl ?_
  exact j5 ⟨_,rfl,by show some (V.bool _,_) = some (V.bool _,_); simp [a7N, *]⟩
 ·refine oB 4 rfl ?_
  exact j5 ⟨_,rfl,by show some (V.bool _,_) = some (V.bool _,_); simp [a7N, *]⟩
def I7 (b:UInt8):Bool:=decide (48 <= b.toNat /\ b.toNat <= 57)
theorem b3p (b:UInt8):a7N (b.toNat:Nat) = I7 b:=by
 simp only [a7N,I7,leB,eqB]; rw [Bool.eq_iff_iff]; simp; omega
theorem c41 (b:UInt8):E env (.call 71 [.int .u8 (b.toNat:Nat)]) [] = some (.ret (.bool (I7 b)) []):=by rw [<- b3p]; exact c41I _
def a07 (n:Int):Bool:=(leB 97 n && leB n 122) || (leB 65 n && leB n 90) || eqB n 95
theorem c43I (n:Int):E env (.call 73 [.int .u8 n]) [] = some (.ret (.bool (a07 n)) []):=by
 refine L8 rfl Tryz.func73 rfl rfl ?_
 refine eSG (oB 1 rfl (eSG (oA 3 rfl ?_)))
 refine A8 rfl rfl rfl (fun h1=>?_) (fun h1=>?_)
 ·refine oA 4 rfl ?_
  refine A8 rfl rfl rfl (fun h2=>?_) (fun h2=>?_)
  ·refine oB 12 rfl ?_
   exact j5 ⟨_,rfl,by show some (V.bool _,_) = some (V.bool _,_); simp [a07, *]⟩
  ·refine oA 3 rfl ?_
   refine A8 rfl rfl rfl (fun h3=>?_) (fun h3=>?_)
   ·refine oA 5 rfl ?_
    refine A8 rfl rfl rfl (fun h4=>?_) (fun h4=>?_)
    ·refine oB 4 rfl ?_
     exact j5 ⟨_,rfl,by show some (V.bool _,_) = some (V.bool _,_); simp [a07, *]⟩
    ·refine oB 4 rfl ?_
     exact j5 ⟨_,rfl,by show some (V.bool _,_) = some (V.bool _,_); simp [a07, *]⟩
   ·refine oB 9 rfl ?_
    exact j5 ⟨_,rfl,by show some (V.bool _,_) = some (V.bool _,_); simp [a07, *]⟩
 ·refine oA 7 rfl ?_
  refine A8 rfl rfl rfl (fun h5=>?_) (fun h5=>?_)
  ·refine oA 5 rfl ?_
   refine A8 rfl rfl rfl (fun h6=>?_) (fun h6=>?_)
   ·refine oB 4 rfl ?_
    exact j5 ⟨_,rfl,by show some (V.bool _,_) = some (V.bool _,_); simp [a07, *]⟩
   ·refine oB 4 rfl ?_
    exact j5 ⟨_,rfl,by show some (V.bool _,_) = some (V.bool _,_); simp [a07, *]⟩
  ·refine oB 9 rfl ?_
   exact j5 ⟨_,rfl,by show some (V.bool _,_) = some (V.bool _,_); simp [a07, *]⟩
def Q6 (b:UInt8):Bool:=decide ((97 <= b.toNat /\ b.toNat <= 122) ∨ (65 <= b.toNat /\ b.toNat <= 90) ∨ b.toNat = 95)
theorem b2a (b:UInt8):a07 (b.toNat:Nat) = Q6 b:=by
 simp only [a07,Q6,leB,eqB]; rw [Bool.eq_iff_iff]; simp; omega
theorem c43 (b:UInt8):E env (.call 73 [.int .u8 (b.toNat:Nat)]) [] = some (.ret (.bool (Q6 b)) []):=by rw [<- b2a]; exact c43I _
def a4V (n:Int):Bool:=eqB n 9 || eqB n 10 || eqB n 13 || eqB n 32
theorem c61I (n:Int):E env (.call 96 [.int .u8 n]) [] = some (.ret (.bool (a4V n)) []):=by
 refine L8 rfl Tryz.func96 rfl rfl ?_
 refine eSG (oB 1 rfl (eSG (oA 3 rfl ?_)))
 refine A8 rfl rfl rfl (fun h1=>?_) (fun h1=>?_)
 ·refine oB 12 rfl ?_
  exact j5 ⟨_,rfl,by show some (V.bool _,_) = some (V.bool _,_); simp [a4V, *]⟩
 ·refine oA 4 rfl ?_
  refine A8 rfl rfl rfl (fun h2=>?_) (fun h2=>?_)
  ·refine oB 8 rfl ?_
   exact j5 ⟨_,rfl,by show some (V.bool _,_) = some (V.bool _,_); simp [a4V, *]⟩
  ·refine oA 4 rfl ?_
   refine A8 rfl rfl rfl (fun h3=>?_) (fun h3=>?_)
   ·refine oB 4 rfl ?_
    exact j5 ⟨_,rfl,by show some (V.bool _,_) = some (V.bool _,_); simp [a4V, *]⟩
   ·refine oB 4 rfl ?_
    exact j5 ⟨_,rfl,by show some (V.bool _,_) = some (V.bool _,_); simp [a4V, *]⟩
def a0X (b:UInt8):Bool:=decide (b.toNat = 9 ∨ b.toNat = 10 ∨ b.toNat = 13 ∨ b.toNat = 32)
theorem b3i (b:UInt8):a4V (b.toNat:Nat) = a0X b:=by
 simp only [a4V,a0X,leB,eqB]; rw [Bool.eq_iff_iff]; simp; omega
theorem c61 (b:UInt8):E env (.call 96 [.int .u8 (b.toNat:Nat)]) [] = some (.ret (.bool (a0X b)) []):=by rw [<- b3i]; exact c61I _
def nlI (n:Int):Bool:=!eqB n 10
theorem c64I (n:Int):E env (.call 99 [.int .u8 n]) [] = some (.ret (.bool (nlI n)) []):=by
 refine L8 rfl Tryz.func99 rfl rfl ?_
 refine eSG (oB 1 rfl (eSG (oB 3 rfl ?_)))
 exact j5 ⟨_,rfl,by show some (V.bool _,_) = some (V.bool _,_); simp [nlI, *]⟩
def nlB (b:UInt8):Bool:=decide (b.toNat ≠ 10)
theorem nlB_eq (b:UInt8):nlI (b.toNat:Nat) = nlB b:=by
 simp only [nlI,nlB,leB,eqB]; rw [Bool.eq_iff_iff]; simp; omega
theorem c64 (b:UInt8):E env (.call 99 [.int .u8 (b.toNat:Nat)]) [] = some (.ret (.bool (nlB b)) []):=by rw [<- nlB_eq]; exact c64I _
def R8 (b:UInt8):Bool:=Q6 b || I7 b
theorem c65 (b:UInt8):E env (.call 100 [.int .u8 (b.toNat:Nat)]) [] = some (.ret (.bool (R8 b)) []):=by
 refine L8 rfl Tryz.func100 rfl rfl ?_
 refine eSG (oB 1 rfl (eSG (oA 1 rfl ?_)))
 refine F4 rfl rfl rfl rfl rfl (c43 ..) rfl ?_
 refine oA 1 rfl ?_
 refine A8 rfl rfl rfl (fun h1=>?_) (fun h1=>?_)
 ·refine oB 4 rfl ?_
  exact j5 ⟨_,rfl,by show some (V.bool _,_) = some (V.bool _,_); simp [R8, *]⟩
 ·refine oA 1 rfl ?_
  refine F4 rfl rfl rfl rfl rfl (c41 ..) rfl ?_
  refine oB 2 rfl ?_
  exact j5 ⟨_,rfl,by show some (V.bool _,_) = some (V.bool _,_); simp [R8, *]⟩
end Go.Proofs.YtamfchbgonekeaaGreatDoor.Sc
namespace Go.Proofs.YtamfchbgonekeaaGreatDoor.Sc
open Go Go.Vm
def scH (s:List UInt8) (i n:Nat) (tc:List V) (c a:Int) (e:Nat):Hp:=[(0,.row [.str s,.i i,.slice (.tag 1) n tc,.i c,.i a]),(1,.tip e n)]
def P5 (s:List UInt8) (j:Nat):Int:=((s.getD j 0).toNat:Nat)
section
variable (s:List UInt8) (i n:Nat) (tc:List V) (c a:Int) (e:Nat)
theorem c37:E env (.call 67 [.ptr 0 0]) (scH s i n tc c a e) = some (.ret (.bool (leB s.length i)) (scH s i n tc c a e)):=by
 refine L8 rfl Tryz.func67 rfl rfl ?_
 refine eSG (oB 1 rfl (eSG (oB 11 rfl ?_)))
 exact j5 ⟨_,rfl,rfl⟩
theorem c38 (k x:Int):E env (.call 68 [.ptr 0 0,.i k,.i x]) (scH s i n tc c a e) = some (.ret (.bool false) (scH s i n tc k x e)):=by
 refine L8 rfl Tryz.func68 rfl rfl ?_
 refine eSG (oB 1 rfl (eSG (oA 3 rfl ?_)))
 refine oD ?_
 refine oB 3 rfl (eSG (oB 1 rfl ?_))
 exact j5 ⟨_,rfl,rfl⟩
theorem c39:E env (.call 69 [.ptr 0 0]) (scH s i n tc c a e) = some (.ret (.bool (!leB 3000 n)) (match leB 3000 n with | true=>scH s i n tc 2 i e | false=>scH s i n tc c a e)):=by
 refine L8 rfl Tryz.func69 rfl rfl ?_
 refine eSG (oB 1 rfl (w9 (eSG (oB 6 rfl ?_))))
 refine J9 rfl (fun h1=>?_) (fun h1=>?_)
 ·refine eSG (oA 6 rfl ?_)
  refine oV (c38 ..) ?_
  refine oB 1 rfl ?_
  exact j5 ⟨_,rfl,by rw [h1]; rfl⟩
 ·refine o7 (eSG (oB 1 rfl ?_))
  exact j5 ⟨_,rfl,by rw [h1]; rfl⟩
theorem c62 (k:Nat) (hk:i + k < 9223372036854775808):E env (.call 97 [.ptr 0 0,.i k]) (scH s i n tc c a e) = some (.ret (.int .u8 (P5 s (i + k))) (scH s i n tc c a e)):=by
 refine L8 rfl Tryz.func97 rfl rfl ?_
 refine eSG (oB 1 rfl (w9 (eSG (oA 5 rfl ?_))))
 refine u7 rfl rfl (addN (by omega)) ?_
 refine oB 6 rfl ?_
 refine J9 rfl (fun h1=>?_) (fun h1=>?_)
 ·rw [ltN,decide_eq_true_eq] at h1
  refine eSG (oA 9 rfl ?_)
  refine u7 rfl rfl (addN (by omega)) ?_
  refine u7 rfl rfl (a2x (a0K (by omega)) rfl) ?_
  refine oB 1 rfl ?_
  exact j5 ⟨_,rfl,rfl⟩
 ·rw [ltN,decide_eq_false_iff_not] at h1
  have:P5 s (i + k) = 0:=by simp only [P5]; rw [List.getD_eq_getElem?_getD,List.getElem?_eq_none (by omega)]; rfl
  rw [this]
  refine o7 (eSG (oB 1 rfl ?_))
  exact j5 ⟨_,rfl,rfl⟩
theorem c46 (k:Int) (t:List UInt8) (f:Nat) (hf:f <= i) (hi:i < 9223372036854775808) (he:e = 0 ∨ e = 4) (hn:n <= 100000) (htc:tc.length = n * 4) :
  E env (.call 76 [.ptr 0 0,.i k,.str t,.i f]) (scH s i n tc c a e) = some (.ret (.tuple []) (scH s i (n + 1) (tc ++ [.i k,.str t,.i f,.i ((i - f:Nat):Int)]) c a 4)):=by
 refine L8 rfl Tryz.func76 rfl rfl ?_
 refine j6 (oA 14 rfl ?_)
 refine u7 rfl rfl (subN (by omega) (by omega)) ?_
 refine oD ?_
 refine oA 1 rfl ?_
 refine a1E rfl rfl rfl rfl rfl rfl rfl rfl rfl rfl rfl (a7R (a0z rfl) rfl) rfl rfl he rfl htc.symm (by show (n + 1) * 41 <= _; omega) rfl rfl rfl ?_
 refine oB 3 rfl ?_
 exact ⟨_,rfl,rfl⟩
end
end Go.Proofs.YtamfchbgonekeaaGreatDoor.Sc
namespace Go.Proofs.YtamfchbgonekeaaGreatDoor.Sc
open Go Go.Vm
def K9 (p:UInt8 -> Bool) (s:List UInt8) (i:Nat):Nat:=i + ((s.drop i).takeWhile p).length
theorem Z6 {s:List UInt8} {i:Nat} (h:i < s.length):s.drop i = s.getD i 0 :: s.drop (i + 1):=by
 rw [List.drop_eq_getElem_cons h]; simp [h]
theorem runE_end {p:UInt8 -> Bool} {s:List UInt8} {i:Nat} (h:s.length <= i):K9 p s i = i:=by simp [K9,List.drop_eq_nil_of_le h]
theorem runE_no {p:UInt8 -> Bool} {s:List UInt8} {i:Nat} (h:i < s.length) (hp:p (s.getD i 0) = false):K9 p s i = i:=by
 simp only [K9,Z6 h,List.takeWhile_cons,hp]; rfl
theorem a8z {p:UInt8 -> Bool} {s:List UInt8} {i:Nat} (h:i < s.length) (hp:p (s.getD i 0) = true):K9 p s i = K9 p s (i + 1):=by
 simp only [K9,Z6 h,List.takeWhile_cons,hp,if_true,List.length_cons]; omega
theorem a3s {p:UInt8 -> Bool} {s:List UInt8} {i:Nat} (h:i <= s.length):K9 p s i <= s.length:=by
 have h1:=List.takeWhile_sublist p (l:=s.drop i)
 have:=h1.length_le
 simp only [K9,List.length_drop] at this ⊢; omega
theorem b0F {p:UInt8 -> Bool} {s:List UInt8} {i:Nat}:i <= K9 p s i:=by simp only [K9]; omega
section
variable (s:List UInt8) (i n:Nat) (tc:List V) (c a:Int) (e:Nat)
theorem c63 (g:Nat) (p:UInt8 -> Bool) (hq:env.quiet g = true) (hp:∀ b:UInt8,E env (.call g [.int .u8 (b.toNat:Nat)]) [] = some (.ret (.bool (p b)) [])) (hi:i <= s.length) (hs:s.length < 4611686018427387904) :
  E env (.call 98 [.ptr 0 0,.func (.func g) [] []]) (scH s i n tc c a e) = some (.ret (.str ((s.take (K9 p s i)).drop i)) (scH s (K9 p s i) n tc c a e)):=by
 obtain ⟨r,hr⟩:∃ r,r = K9 p s i:=⟨_,rfl⟩
 rw [<- hr]
 refine L8 rfl Tryz.func98 rfl rfl ?_
 refine eSG (oB 1 rfl (eSG (oB 5 rfl (w9 ?_))))
 refine E9 ?_
 refine a0h rfl ?_
 refine a5d (fun _=>[(0,.ptr 0 0),(1,.func (.func g) [] []),(5,.i i)]) (fun j=>scH s j n tc c a e) (fun j=>i <= j /\ j <= s.length /\ r = K9 p s j) (fun j=>s.length - j) i ⟨Nat.le_refl _,hi,hr⟩ ?_
 intro j ⟨hij,hj,hr⟩ ih
 refine w9 (eSG (oA 1 rfl ?_))
 refine oV (c37 ..) ?_
 refine oA 2 rfl ?_
 refine A8 rfl rfl rfl (fun h1=>?_) (fun h1=>?_)
 ·replace h1:j < s.length:=by simpa [leN_] using h1
  refine oA 9 rfl ?_
  refine u7 rfl rfl (a2x (a0K (by omega)) rfl) ?_
  refine b3A rfl rfl rfl hq rfl rfl (hp _) rfl ?_
  refine oB 1 rfl ?_
  refine J9 rfl (fun h2=>?_) (fun h2=>?_)
  ·refine o7 ?_
   refine E9 ?_
   refine j6 (oA 4 rfl ?_)
   refine u7 rfl rfl (add1 (by omega)) ?_
   refine oB 3 rfl ?_
   exact ⟨_,_,rfl,ih (j + 1) (by omega) ⟨by omega,by omega,by rw [hr,a8z h1 h2]⟩⟩
  ·rw [runE_no h1 h2] at hr
   subst hr
   refine X7 ?_
   refine eSG (oA 9 rfl ?_)
   refine u7 rfl rfl (a2x (a6p (by omega) (by omega)) rfl) ?_
   refine oB 1 rfl ?_
   exact j5 ⟨_,rfl,rfl⟩
 ·replace h1:s.length <= j:=by simpa [leN_] using h1
  rw [runE_end h1] at hr
  subst hr
  refine oB 12 rfl ?_
  refine P8 rfl rfl ?_
  refine X7 ?_
  refine eSG (oA 9 rfl ?_)
  refine u7 rfl rfl (a2x (a6p (by omega) (by omega)) rfl) ?_
  refine oB 1 rfl ?_
  exact j5 ⟨_,rfl,rfl⟩
end
end Go.Proofs.YtamfchbgonekeaaGreatDoor.Sc
namespace Go.Proofs.YtamfchbgonekeaaGreatDoor.Sc
open Go Go.Vm
def a1r:Bool -> List UInt8 -> Nat
 | _,[]=>0
 | true,b :: r=>a1r (nlB b) r + 1
 | false,b :: r=>match a0X b with
  | true=>a1r false r + 1
  | false=>match decide (b.toNat = 47) && decide ((r.headD 0).toNat = 47) with
   | true=>a1r true r + 1
   | false=>0
def M8 (s:List UInt8) (i:Nat):Nat:=i + a1r false (s.drop i)
theorem a7S (s:List UInt8) (i:Nat):(s.drop i).headD 0 = s.getD i 0:=by
 rcases Nat.lt_or_ge i s.length with h | h
 ·rw [Z6 h]; rfl
 ·rw [List.drop_eq_nil_of_le h,List.getD_eq_getElem?_getD,List.getElem?_eq_none h]; rfl
theorem a9U {s:List UInt8} {i:Nat} (h:s.length <= i):M8 s i = i:=by simp [M8,List.drop_eq_nil_of_le h,a1r]
theorem a7a {s:List UInt8} {i:Nat} (h:i < s.length) (hb:a0X (s.getD i 0) = true):M8 s i = M8 s (i + 1):=by
 simp only [M8,Z6 h,a1r,hb]; omega
theorem a8H {s:List UInt8} {i:Nat} (h:i < s.length) (hb:a0X (s.getD i 0) = false) (hc:(s.getD i 0).toNat ≠ 47 ∨ (s.getD (i + 1) 0).toNat ≠ 47):M8 s i = i:=by
 have:(decide ((s.getD i 0).toNat = 47) && decide (((s.drop (i + 1)).headD 0).toNat = 47)) = false:=by
  rw [a7S,Bool.and_eq_false_iff,decide_eq_false_iff_not,decide_eq_false_iff_not]; exact hc
 simp only [M8,Z6 h,a1r,hb,this]; rfl
theorem a8I:∀ l:List UInt8,a1r true l = (l.takeWhile nlB).length + a1r false (l.drop (l.takeWhile nlB).length)
 | []=>rfl
 | b :: r=>by
  cases hb:nlB b with
  | true =>
   simp only [a1r,hb,List.takeWhile_cons,if_true,List.length_cons,List.drop_succ_cons]
   rw [a8I r]; omega
  | false =>
   have h2:a0X b = true:=by simp only [nlB,a0X,decide_eq_false_iff_not,decide_eq_true_eq] at hb ⊢; omega
   simp only [a1r,hb,h2,List.takeWhile_cons,Bool.false_eq_true,if_false,List.length_nil,List.drop_zero]; omega
theorem b3S {s:List UInt8} {i:Nat} (h:i < s.length) (h1:(s.getD i 0).toNat = 47) (h2:(s.getD (i + 1) 0).toNat = 47):M8 s i = M8 s (K9 nlB s i):=by
 have hb:a0X (s.getD i 0) = false:=by simp only [a0X,decide_eq_false_iff_not]; omega
 have hn:nlB (s.getD i 0) = true:=by simp only [nlB,decide_eq_true_eq]; omega
 have hc:(decide ((s.getD i 0).toNat = 47) && decide (((s.drop (i + 1)).headD 0).toNat = 47)) = true:=by rw [a7S,h1,h2]; rfl
 rw [a8z h hn]
 simp only [M8,Z6 h,a1r,hb,hc,a8I,K9,List.drop_drop]; omega
theorem a5R {p:UInt8 -> Bool} {s:List UInt8} {i:Nat} (h:i < s.length) (hp:p (s.getD i 0) = true):i < K9 p s i:=by
 rw [a8z h hp]; have:=b0F (p:=p) (s:=s) (i:=i + 1); omega
section
variable (s:List UInt8) (i n:Nat) (tc:List V) (c a:Int) (e:Nat)
theorem c36 (hi:i <= s.length) (hs:s.length < 4611686018427387904):E env (.call 66 [.ptr 0 0]) (scH s i n tc c a e) = some (.ret (.tuple []) (scH s (M8 s i) n tc c a e)):=by
 obtain ⟨r,hr⟩:∃ r,r = M8 s i:=⟨_,rfl⟩
 rw [<- hr]
 refine L8 rfl Tryz.func66 rfl rfl ?_
 refine E9 ?_
 refine a0h rfl ?_
 refine a5d (fun _=>[(0,.ptr 0 0)]) (fun j=>scH s j n tc c a e) (fun j=>j <= s.length /\ r = M8 s j) (fun j=>s.length - j) i ⟨hi,hr⟩ ?_
 intro j ⟨hj,hr⟩ ih
 refine w9 (eSG (oA 1 rfl ?_))
 refine oV (c37 ..) ?_
 refine oB 1 rfl ?_
 refine J9 rfl (fun h1=>?_) (fun h1=>?_)
 ·replace h1:j < s.length:=by simpa [leN_] using h1
  refine o7 ?_
  refine E9 ?_
  refine E9 ?_
  refine eSG (oA 8 rfl ?_)
  refine u7 rfl rfl (a2x (a0K (by omega)) rfl) ?_
  refine F4 rfl rfl rfl rfl rfl (c61 ..) rfl ?_
  refine oB 1 rfl ?_
  refine J9 rfl (fun h2=>?_) (fun h2=>?_)
  ·refine j6 (oA 4 rfl ?_)
   refine u7 rfl rfl (add1 (by omega)) ?_
   refine oB 3 rfl ?_
   exact ⟨_,_,rfl,ih (j + 1) (by omega) ⟨by omega,by rw [hr,a7a h1 h2]⟩⟩
  ·refine eSG (oA 8 rfl ?_)
   refine u7 rfl rfl (a2x (a0K (by omega)) rfl) ?_
   refine oA 2 rfl ?_
   refine A8 rfl rfl rfl (fun h3=>?_) (fun h3=>?_)
   ·simp only [eqB,P5,beq_iff_eq,beq_eq_false_iff_ne,ne_eq,Int.toNat_natCast] at h3
    refine oA 1 rfl ?_
    refine oV (c62 s j n tc c a e 1 (by omega)) ?_
    refine oB 3 rfl ?_
    refine J9 rfl (fun h4=>?_) (fun h4=>?_)
    ·simp only [eqB,P5,beq_iff_eq,beq_eq_false_iff_ne,ne_eq,Int.toNat_natCast] at h4
     refine j6 (oA 1 rfl ?_)
     refine oV (c63 s j n tc c a e 99 nlB rfl c64 hj hs) ?_
     refine D6 ?_
     exact ⟨_,_,rfl,ih (K9 nlB s j) (by have:=a5R (p:=nlB) h1 (by simp only [nlB,decide_eq_true_eq]; omega); omega) ⟨a3s hj,by rw [hr,b3S h1 (by omega) (by omega)]⟩⟩
    ·simp only [eqB,P5,beq_iff_eq,beq_eq_false_iff_ne,ne_eq,Int.toNat_natCast] at h4
     rw [a8H h1 h2 (.inr (by omega))] at hr
     subst hr
     exact j5 ⟨_,rfl,rfl⟩
   ·simp only [eqB,P5,beq_iff_eq,beq_eq_false_iff_ne,ne_eq,Int.toNat_natCast] at h3
    rw [a8H h1 h2 (.inl (by omega))] at hr
    subst hr
    refine oB 5 rfl ?_
    refine P8 rfl rfl ?_
    exact j5 ⟨_,rfl,rfl⟩
 ·replace h1:s.length <= j:=by simpa [leN_] using h1
  rw [a9U h1] at hr
  subst hr
  refine X7 ?_
  exact ⟨_,rfl,rfl⟩
end
end Go.Proofs.YtamfchbgonekeaaGreatDoor.Sc
namespace Go.Proofs.YtamfchbgonekeaaGreatDoor.Sc
open Go Go.Vm
def a1N:List UInt8:=[57,50,50,51,51,55,50,48,51,54,56,53,52,55,55,53,56,48,55]
def Q5 (w:List UInt8) (nx:UInt8):Bool:=(ltB 1 w.length && eqB (w.getD 0 0).toNat 48) || ltB 19 w.length || (eqB w.length 19 && !(ltS w a1N || eqS w a1N)) || Q6 nx
def a6D (k:Int) (w:List UInt8) (i l:Nat):List V:=[.i k,.str w,.i i,.i l]
section
variable (s:List UInt8) (i n:Nat) (tc:List V) (c a:Int) (e:Nat)
theorem c42 (hi:i <= s.length) (hs:s.length < 4611686018427387904) (he:e = 0 ∨ e = 4) (hn:n <= 100000) (htc:tc.length = n * 4) (r:Nat) (hr:K9 I7 s i = r) (w:List UInt8) (hw:(s.take r).drop i = w) (b:Bool) (hb:Q5 w (s.getD r 0) = b) :
  E env (.call 72 [.ptr 0 0]) (scH s i n tc c a e) = some (.ret (.bool (!b)) (match b with | true=>scH s r n tc 13 i e | false=>scH s r (n + 1) (tc ++ a6D 3 w i (r - i)) c a 4)):=by
 have h63:=c63 s i n tc c a e 71 I7 rfl c41 hi hs
 rw [hr,hw] at h63
 have hri:i <= r:=by rw [<- hr]; exact b0F
 have hrl:r <= s.length:=by rw [<- hr]; exact a3s hi
 refine L8 rfl Tryz.func72 rfl rfl ?_
 refine eSG (oB 1 rfl (eSG (oB 6 rfl (eSG (oA 3 rfl ?_)))))
 refine a7y rfl rfl rfl (a2X rfl rfl h63 rfl rfl rfl) ?_
 refine oB 1 rfl (w9 (eSG (oA 4 rfl ?_)))
 refine A8 rfl rfl rfl (fun h1=>?_) (fun h1=>?_)
 ·refine oA 1 rfl ?_
  refine u7 rfl rfl (a2x (a0K (i:=0) (by simp only [ltB,decide_eq_true_eq] at h1; omega)) rfl) ?_
  refine oA 3 rfl ?_
  refine A8 rfl rfl rfl (fun h2=>?_) (fun h2=>?_)
  ·refine oB 20 rfl ?_
   refine M9 rfl rfl ?_
   refine eSG (oA 2 rfl ?_)
   refine oV (c38 ..) ?_
   refine oB 1 rfl ?_
   obtain rfl:b = true:=by rw [<- hb]; clear hb h63; (try simp only [Int.toNat_zero,Nat.add_zero] at *); simp only [*,Q5,a1N,Bool.and_true,Bool.true_and,Bool.and_false,Bool.false_and,Bool.or_true,Bool.true_or,Bool.or_false,Bool.false_or,Bool.not_true,Bool.not_false]
   exact j5 ⟨_,rfl,rfl⟩
  ·refine oA 5 rfl ?_
   refine A8 rfl rfl rfl (fun h3=>?_) (fun h3=>?_)
   ·refine oB 15 rfl ?_
    refine M9 rfl rfl ?_
    refine eSG (oA 2 rfl ?_)
    refine oV (c38 ..) ?_
    refine oB 1 rfl ?_
    obtain rfl:b = true:=by rw [<- hb]; clear hb h63; (try simp only [Int.toNat_zero,Nat.add_zero] at *); simp only [*,Q5,a1N,Bool.and_true,Bool.true_and,Bool.and_false,Bool.false_and,Bool.or_true,Bool.true_or,Bool.or_false,Bool.false_or,Bool.not_true,Bool.not_false]
    exact j5 ⟨_,rfl,rfl⟩
   ·refine oA 4 rfl ?_
    refine A8 rfl rfl rfl (fun h4=>?_) (fun h4=>?_)
    ·refine oA 5 rfl ?_
     refine A8 rfl rfl rfl (fun h5=>?_) (fun h5=>?_)
     ·refine oB 6 rfl ?_
      refine M9 rfl rfl ?_
      refine eSG (oA 2 rfl ?_)
      refine oV (c38 ..) ?_
      refine oB 1 rfl ?_
      obtain rfl:b = true:=by rw [<- hb]; clear hb h63; (try simp only [Int.toNat_zero,Nat.add_zero] at *); simp only [*,Q5,a1N,Bool.and_true,Bool.true_and,Bool.and_false,Bool.false_and,Bool.or_true,Bool.true_or,Bool.or_false,Bool.false_or,Bool.not_true,Bool.not_false]
      exact j5 ⟨_,rfl,rfl⟩
     ·refine oA 3 rfl ?_
      refine oV (c62 s r n tc c a e 0 (by omega)) ?_
      refine F4 rfl rfl rfl rfl rfl (c43 ..) rfl ?_
      refine oB 1 rfl ?_
      refine J9 rfl (fun h6=>?_) (fun h6=>?_)
      ·refine eSG (oA 2 rfl ?_)
       refine oV (c38 ..) ?_
       refine oB 1 rfl ?_
       obtain rfl:b = true:=by rw [<- hb]; clear hb h63; (try simp only [Int.toNat_zero,Nat.add_zero] at *); simp only [*,Q5,a1N,Bool.and_true,Bool.true_and,Bool.and_false,Bool.false_and,Bool.or_true,Bool.true_or,Bool.or_false,Bool.false_or,Bool.not_true,Bool.not_false]
       exact j5 ⟨_,rfl,rfl⟩
      ·refine o7 (eSG (oA 3 rfl ?_))
       refine oV (c46 s r n tc c a e 3 w i hri (by omega) he hn htc) ?_
       refine D6 (eSG (oB 1 rfl ?_))
       obtain rfl:b = false:=by rw [<- hb]; clear hb h63; (try simp only [Int.toNat_zero,Nat.add_zero] at *); simp only [*,Q5,a1N,Bool.and_true,Bool.true_and,Bool.and_false,Bool.false_and,Bool.or_true,Bool.true_or,Bool.or_false,Bool.false_or,Bool.not_true,Bool.not_false]
       exact j5 ⟨_,rfl,rfl⟩
    ·refine oA 8 rfl ?_
     refine oV (c62 s r n tc c a e 0 (by omega)) ?_
     refine F4 rfl rfl rfl rfl rfl (c43 ..) rfl ?_
     refine oB 1 rfl ?_
     refine J9 rfl (fun h7=>?_) (fun h7=>?_)
     ·refine eSG (oA 2 rfl ?_)
      refine oV (c38 ..) ?_
      refine oB 1 rfl ?_
      obtain rfl:b = true:=by rw [<- hb]; clear hb h63; (try simp only [Int.toNat_zero,Nat.add_zero] at *); simp only [*,Q5,a1N,Bool.and_true,Bool.true_and,Bool.and_false,Bool.false_and,Bool.or_true,Bool.true_or,Bool.or_false,Bool.false_or,Bool.not_true,Bool.not_false]
      exact j5 ⟨_,rfl,rfl⟩
     ·refine o7 (eSG (oA 3 rfl ?_))
      refine oV (c46 s r n tc c a e 3 w i hri (by omega) he hn htc) ?_
      refine D6 (eSG (oB 1 rfl ?_))
      obtain rfl:b = false:=by rw [<- hb]; clear hb h63; (try simp only [Int.toNat_zero,Nat.add_zero] at *); simp only [*,Q5,a1N,Bool.and_true,Bool.true_and,Bool.and_false,Bool.false_and,Bool.or_true,Bool.true_or,Bool.or_false,Bool.false_or,Bool.not_true,Bool.not_false]
      exact j5 ⟨_,rfl,rfl⟩
 ·refine oA 10 rfl ?_
  refine A8 rfl rfl rfl (fun h8=>?_) (fun h8=>?_)
  ·refine oB 15 rfl ?_
   refine M9 rfl rfl ?_
   refine eSG (oA 2 rfl ?_)
   refine oV (c38 ..) ?_
   refine oB 1 rfl ?_
   obtain rfl:b = true:=by rw [<- hb]; clear hb h63; (try simp only [Int.toNat_zero,Nat.add_zero] at *); simp only [*,Q5,a1N,Bool.and_true,Bool.true_and,Bool.and_false,Bool.false_and,Bool.or_true,Bool.true_or,Bool.or_false,Bool.false_or,Bool.not_true,Bool.not_false]
   exact j5 ⟨_,rfl,rfl⟩
  ·refine oA 4 rfl ?_
   refine A8 rfl rfl rfl (fun h9=>?_) (fun h9=>?_)
   ·refine oA 5 rfl ?_
    refine A8 rfl rfl rfl (fun h10=>?_) (fun h10=>?_)
    ·refine oB 6 rfl ?_
     refine M9 rfl rfl ?_
     refine eSG (oA 2 rfl ?_)
     refine oV (c38 ..) ?_
     refine oB 1 rfl ?_
     obtain rfl:b = true:=by rw [<- hb]; clear hb h63; (try simp only [Int.toNat_zero,Nat.add_zero] at *); simp only [*,Q5,a1N,Bool.and_true,Bool.true_and,Bool.and_false,Bool.false_and,Bool.or_true,Bool.true_or,Bool.or_false,Bool.false_or,Bool.not_true,Bool.not_false]
     exact j5 ⟨_,rfl,rfl⟩
    ·refine oA 3 rfl ?_
     refine oV (c62 s r n tc c a e 0 (by omega)) ?_
     refine F4 rfl rfl rfl rfl rfl (c43 ..) rfl ?_
     refine oB 1 rfl ?_
     refine J9 rfl (fun h11=>?_) (fun h11=>?_)
     ·refine eSG (oA 2 rfl ?_)
      refine oV (c38 ..) ?_
      refine oB 1 rfl ?_
      obtain rfl:b = true:=by rw [<- hb]; clear hb h63; (try simp only [Int.toNat_zero,Nat.add_zero] at *); simp only [*,Q5,a1N,Bool.and_true,Bool.true_and,Bool.and_false,Bool.false_and,Bool.or_true,Bool.true_or,Bool.or_false,Bool.false_or,Bool.not_true,Bool.not_false]
      exact j5 ⟨_,rfl,rfl⟩
     ·refine o7 (eSG (oA 3 rfl ?_))
      refine oV (c46 s r n tc c a e 3 w i hri (by omega) he hn htc) ?_
      refine D6 (eSG (oB 1 rfl ?_))
      obtain rfl:b = false:=by rw [<- hb]; clear hb h63; (try simp only [Int.toNat_zero,Nat.add_zero] at *); simp only [*,Q5,a1N,Bool.and_true,Bool.true_and,Bool.and_false,Bool.false_and,Bool.or_true,Bool.true_or,Bool.or_false,Bool.false_or,Bool.not_true,Bool.not_false]
      exact j5 ⟨_,rfl,rfl⟩
   ·refine oA 8 rfl ?_
    refine oV (c62 s r n tc c a e 0 (by omega)) ?_
    refine F4 rfl rfl rfl rfl rfl (c43 ..) rfl ?_
    refine oB 1 rfl ?_
    refine J9 rfl (fun h12=>?_) (fun h12=>?_)
    ·refine eSG (oA 2 rfl ?_)
     refine oV (c38 ..) ?_
     refine oB 1 rfl ?_
     obtain rfl:b = true:=by rw [<- hb]; clear hb h63; (try simp only [Int.toNat_zero,Nat.add_zero] at *); simp only [*,Q5,a1N,Bool.and_true,Bool.true_and,Bool.and_false,Bool.false_and,Bool.or_true,Bool.true_or,Bool.or_false,Bool.false_or,Bool.not_true,Bool.not_false]
     exact j5 ⟨_,rfl,rfl⟩
    ·refine o7 (eSG (oA 3 rfl ?_))
     refine oV (c46 s r n tc c a e 3 w i hri (by omega) he hn htc) ?_
     refine D6 (eSG (oB 1 rfl ?_))
     obtain rfl:b = false:=by rw [<- hb]; clear hb h63; (try simp only [Int.toNat_zero,Nat.add_zero] at *); simp only [*,Q5,a1N,Bool.and_true,Bool.true_and,Bool.and_false,Bool.false_and,Bool.or_true,Bool.true_or,Bool.or_false,Bool.false_or,Bool.not_true,Bool.not_false]
     exact j5 ⟨_,rfl,rfl⟩
end
end Go.Proofs.YtamfchbgonekeaaGreatDoor.Sc
