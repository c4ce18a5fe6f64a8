/- What the functions under ParseFaults compute, step by step, as functions in Lean: texts that were built one by one, joined. -/
import Derived.Test.YtmhiojdkjokccaaGreatDoorParseFaultsJ7
import Derived.KernelRfl
import Derived.Test.YtmhiojdkjokccaaGreatDoorProg
import Derived.Tactics
import Derived.Tactics2
import Derived.Defers
import Derived.Recover
import Derived.Laws.Pointers
import Derived.BigCall
import Derived.BigGuard
set_option maxRecDepth 100000
set_option maxHeartbeats 20000000
set_option linter.unusedSimpArgs false
set_option linter.unusedVariables false
set_option linter.unusedSectionVars false
namespace Go.Proofs.YtmhiojdkjokccaaGreatDoor
open Go Go.Vm
section
variable {lo:Nat} {l:List Tok} {size:Int} (C:Cx l size)
include C
theorem b5x {N n n' k0:Nat} {a:Int} (hN:24000 <= N) (hn:N <= n) (hn':N <= n') (H:Hyp lo l size (k0 + 1) N):∀ (m m' k:Nat) (xs:List Nod),k0 <= k -> k <= l.length -> l.length - k < m -> l.length - k < m' -> szN xs + 4 * k0 <= 4 * k -> (∀ x ∈ xs,G 0 x) ->
  (∃ (q:Nat) (ys:List Nod),a0n n (j5.fs n) size l m k xs = some (.brk ((q:Int),ys)) /\ ((o9 [44] l size k (-1)).bind fun (r45,at46)=>a0Q n' (l5.fs n') size l a m' r45 at46 (-1) xs) = some (.brk ((q:Int),-1,ys)) /\ k <= q /\ q <= l.length /\ szN ys + 4 * k0 <= 4 * q /\ ∀ x ∈ ys,G 0 x) ∨
  (∃ (q:Nat) (y:Nod) (pl:Int) (f:o5),a0n n (j5.fs n) size l m k xs = some (.out (.pan (f,(q:Int)))) /\ ((o9 [44] l size k (-1)).bind fun (r45,at46)=>a0Q n' (l5.fs n') size l a m' r45 at46 (-1) xs) = some (.out (y,false,(q:Int),pl)) /\ k <= q /\ q <= l.length /\ a4h lo l size q pl f)
 | 0,m',k,xs,h1,h2,h3,h4,h5,h6=>by omega
 | m + 1,0,k,xs,h1,h2,h3,h4,h5,h6=>by omega
 | m + 1,m' + 1,k,xs,h1,h2,h3,h4,h5,h6=>by
  have hl:=C.hl
  have hlen:=X7 xs
  rw [a0n.eq_2]
  rcases sgx C h2 44 [] with ⟨b,hb,e1,e2,e3,e4,e5⟩ | ⟨b,e1,e2,e3,e4,e5⟩
  ·rw [e1,e2]
   simp only [Option.bind_some,cond_true,a0Q.eq_2]
   rcases H.expr (k + 1) n n' (by omega) hb hn hn' with ⟨x,q,p1,p2,p3,p4,p5,p6⟩ | ⟨x,q,pl,f,p1,p2,p3,p4,p5⟩
   ·have a1:app 144 xs [x] = some (xs ++ [x]):=a1s (by omega) (by simp) (by omega)
    have hx:=x.a2q
    simp only [p1,p2,a1,H6,Option.bind_some,Bool.not_true,cond_false]
    rcases b5x hN hn hn' H m m' q (xs ++ [x]) (by omega) p4 (by omega) (by omega) (by simp only [szs]; omega) (a4X h6 (a4i p6.1)) with ⟨q',ys,y1,y2,y3,y4,y5,y6⟩ | ⟨q',y,pl,f,y1,y2,y3,y4,y5⟩
    ·exact .inl ⟨q',ys,y1,y2,by omega,y4,y5,y6⟩
    ·exact .inr ⟨q',y,pl,f,y1,y2,by omega,y4,y5⟩
   ·simp only [p1,p2,N7,Option.bind_some,Bool.not_false,cond_true]
    exact .inr ⟨q,_,pl,f,rfl,rfl,by omega,p4,p5⟩
  ·rw [e1,e2]
   exact .inl ⟨k,xs,rfl,rfl,Nat.le_refl _,h2,h5,h6⟩
theorem atom_at {N n n' k:Nat} (hN:24000 <= N) (hn:N + 2 <= n) (hn':N + 2 <= n') (hk:k <= l.length) (H:Hyp lo l size (k + 1) N) (h1:isK l 1 k = false) :
  a2X lo l size k Nod.sz (GA l size k) ((j5.fs n).a0r l k size) ((l5.fs n').a2J l size k (-1)):=by
 have hl:=C.hl
 obtain ⟨n,rfl⟩:∃ q,n = q + 1:=⟨n - 1,by omega⟩
 obtain ⟨n',rfl⟩:∃ q,n' = q + 1:=⟨n' - 1,by omega⟩
 show a2X lo l size k Nod.sz (GA l size k) (a0L n (j5.fs n) l k size) (a1Y n' (l5.fs n') l size k (-1))
 unfold a0L a1Y
 rcases inx C hk with ⟨c,hb,v,v0,e1,e2,e3,e4⟩ | ⟨c,e1,e2,e3⟩
 ·simp (disch:=omega) only [e1,e2,e3,e4,SSx C]
  exact .inl ⟨_,k + 1,rfl,rfl,by omega,hb,by simp only [szs]; omega,⟨.int v0 (C.pos k),at0 (by omega) rfl⟩⟩
 simp (disch:=omega) only [e2,e3,SSx C]
 rcases kdx C hk 4 with ⟨c,hb,t,t1,t2,t3,t4,e1,e2,e3,e4⟩ | ⟨c,e1,e2,e3,e4⟩
 ·simp (disch:=omega) only [e1,e3,e4,t2,SSx C]
  exact .inl ⟨_,k + 1,rfl,rfl,by omega,hb,by simp only [szs]; omega,⟨.text (C.pos k),at0 (by omega) rfl⟩⟩
 simp (disch:=omega) only [e1,e3,SSx C]
 rcases kdx C hk 5 with ⟨c,hb,t,t1,t2,t3,t4,e1,e2,e3,e4⟩ | ⟨c,e1,e2,e3,e4⟩
 ·simp (disch:=omega) only [e1,e2,SSx C]
  rcases b9O C (n:=n) (n':=n') hN (by omega) (by omega) c H with ⟨x,q,p1,p2,p3,p4,p5,p6⟩ | ⟨x,q,pl,f,p1,p2,p3,p4,p5⟩
  ·simp only [p1,p2,H6,Option.bind_some,W9]
   exact .inl ⟨x,q,rfl,rfl,p3,p4,p5,p6⟩
  ·simp only [p1,p2,N7,Option.bind_some,W9]
   exact .inr ⟨x,q,pl,f,rfl,rfl,p3,p4,p5⟩
 simp (disch:=omega) only [e1,e2,SSx C]
 rcases kyx C hk 116 [114,117,101] with ⟨b,hb,e1,e2,e3,e4,e5⟩ | ⟨b,e1,e2,e3,e4,e5⟩
 ·simp (disch:=omega) only [e1,e2,SSx C]
  exact .inl ⟨_,k + 1,rfl,rfl,by omega,hb,by simp only [szs]; omega,⟨.truth (.inr rfl) (C.pos k),at0 (by omega) rfl⟩⟩
 simp (disch:=omega) only [e1,e2,SSx C]
 rcases kyx C hk 102 [97,108,115,101] with ⟨b,hb,e1,e2,e3,e4,e5⟩ | ⟨b,e1,e2,e3,e4,e5⟩
 ·simp (disch:=omega) only [e1,e2,SSx C]
  exact .inl ⟨_,k + 1,rfl,rfl,by omega,hb,by simp only [szs]; omega,⟨.truth (.inl rfl) (C.pos k),at0 (by omega) rfl⟩⟩
 obtain ⟨n1,n2,n3⟩:=nmf C hk h1
 simp (disch:=omega) only [e1,e2,n2,n3,SSx C]
 rcases kyx C hk 99 [111,110,115,117,109,101] with ⟨b,hb,e1,e2,e3,e4,e5⟩ | ⟨b,e1,e2,e3,e4,e5⟩
 ·simp (disch:=omega) only [e1,e2,SSx C]
  rcases nmx C hb with ⟨c,hb,e1,e2,e3⟩ | ⟨c,e1,e2,e3⟩
  ·simp (disch:=omega) only [e1,e2,SSx C]
   exact .inl ⟨_,k + 1 + 1,rfl,rfl,by omega,hb,by simp only [szs]; omega,⟨.use (C.pos k),at0 (by omega) rfl⟩⟩
  ·simp (disch:=omega) only [e1,e2,SSx C]
   exact .inr ⟨_,k + 1,-1,_,rfl,rfl,by omega,hb,a0s lo l size (k + 1)⟩
 simp (disch:=omega) only [e1,e2,SSx C]
 rcases sgx C hk 91 [] with ⟨b,hb,e1,e2,e3,e4,e5⟩ | ⟨b,e1,e2,e3,e4,e5⟩
 ·simp (disch:=omega) only [e1,e2,SSx C]
  rcases sgx C hb 93 [] with ⟨b,hb,e1,e2,e3,e4,e5⟩ | ⟨b,e1,e2,e3,e4,e5⟩
  ·simp (disch:=omega) only [e1,e2,SSx C]
   exact .inl ⟨_,k + 1 + 1,rfl,rfl,by omega,hb,by simp only [szs]; omega,⟨.list (C.pos k) all_nil,at0 (by omega) rfl⟩⟩
  simp (disch:=omega) only [e1,e2,SSx C]
  obtain ⟨m',rfl⟩:∃ q,n' = q + 1:=⟨n' - 1,by omega⟩
  rw [a0Q.eq_2,cond_true]
  rcases H.expr (k + 1) n (m' + 1) (Nat.le_refl _) hb (by omega) (by omega) with ⟨x,q,p1,p2,p3,p4,p5,p6⟩ | ⟨x,q,pl,f,p1,p2,p3,p4,p5⟩
  ·rw [p1,p2,H6,Option.bind_some]
   simp only [app_0 144 x (by omega),Option.bind_some,Bool.not_true,cond_false]
   have hx:=x.a2q
   rcases b5x C (a:=H7 l size k) (n:=n) (n':=m' + 1) hN (by omega) (by omega) H n m' q [x] (by omega) p4 (by omega) (by omega) (by simp only [szs]; omega) (a4i p6.1) with ⟨q',ys,y1,y2,y3,y4,y5,y6⟩ | ⟨q',y,pl,f,y1,y2,y3,y4,y5⟩
   ·rw [y1,y2,a1y,a1y]
    rcases sgx C y4 93 [] with ⟨b,hb,e1,e2,e3,e4,e5⟩ | ⟨b,e1,e2,e3,e4,e5⟩
    ·simp (disch:=omega) only [e2,e3,SSx C]
     exact .inl ⟨_,q' + 1,rfl,rfl,by omega,hb,by simp only [szs]; omega,⟨.list (C.pos k) y6,at0 (by omega) rfl⟩⟩
    ·simp (disch:=omega) only [e2,e3,SSx C]
     exact .inr ⟨_,q',-1,_,rfl,rfl,by omega,y4,a0s lo l size q'⟩
   ·rw [y1,y2,a4j,a4j,W9,W9]
    exact .inr ⟨_,q',pl,f,rfl,rfl,by omega,y4,y5⟩
  ·rw [p1,p2,N7,Option.bind_some]
   exact .inr ⟨_,q,pl,f,rfl,rfl,by omega,p4,p5⟩
 simp (disch:=omega) only [e1,e2,SSx C]
 rcases sgx C hk 40 [] with ⟨b,hb,e1,e2,e3,e4,e5⟩ | ⟨b,e1,e2,e3,e4,e5⟩
 ·simp (disch:=omega) only [e1,e2,SSx C]
  rcases H.expr (k + 1) n n' (Nat.le_refl _) hb (by omega) (by omega) with ⟨x,q,p1,p2,p3,p4,p5,p6⟩ | ⟨x,q,pl,f,p1,p2,p3,p4,p5⟩
  ·simp (disch:=omega) only [p1,p2,SSx C]
   rcases sgx C p4 41 [] with ⟨b,hb,e1,e2,e3,e4,e5⟩ | ⟨b,e1,e2,e3,e4,e5⟩
   ·simp (disch:=omega) only [e2,e3,SSx C]
    exact .inl ⟨x,q + 1,rfl,rfl,by omega,hb,by omega,⟨p6.1,p6.2.up (by omega) (by omega) rfl⟩⟩
   ·simp (disch:=omega) only [e2,e3,SSx C]
    exact .inr ⟨_,q,-1,_,rfl,rfl,by omega,p4,a0s lo l size q⟩
  ·simp (disch:=omega) only [p1,p2,SSx C]
   exact .inr ⟨_,q,pl,f,rfl,rfl,by omega,p4,p5⟩
 simp (disch:=omega) only [e1,e2,SSx C]
 rcases sgx C hk 123 [] with ⟨b,hb,e1,e2,e3,e4,e5⟩ | ⟨b,e1,e2,e3,e4,e5⟩
 ·simp (disch:=omega) only [e4,e5,SSx C]
  rcases clos_at C (n:=n) (n':=n') hN (by omega) (by omega) b H with ⟨x,q,p1,p2,p3,p4,p5,p6⟩ | ⟨x,q,pl,f,p1,p2,p3,p4,p5⟩
  ·simp only [p1,p2,H6,Option.bind_some,W9]
   exact .inl ⟨x,q,rfl,rfl,p3,p4,p5,p6⟩
  ·simp only [p1,p2,N7,Option.bind_some,W9]
   exact .inr ⟨x,q,pl,f,rfl,rfl,p3,p4,p5⟩
 simp (disch:=omega) only [e4,e5,SSx C]
 obtain ⟨n',rfl⟩:∃ q,n' = q + 1:=⟨n' - 1,by omega⟩
 have hpa:(l5.fs (n' + 1)).a3K l size k (-1) = a4s n' (l5.fs n') l size k (-1):=rfl
 rw [hpa]
 unfold a4s
 rw [a6q C.hl hk,Option.bind_some]
 rcases base_sim C (n:=n) (n':=n') hk (by omega) (by omega) with ⟨t,q0,p1,p2,p3,p4,p5⟩ | ⟨t,q0,p1,p2,p3,p4⟩
 ·rw [p1 true,p2,Option.bind_some]
  simp only
  rcases b5I C (Φ:=D5.fs (n - 1)) (Ψ:=l5.fs n') (n - 1) n' k (H7 l size k) (n - 1) n' q0 t p4 (by omega) (by omega) p5 with ⟨t',q,y1,y2,y3,y4,y5,y6⟩ | ⟨t',q,y1,y2,y3,y4,y5,y6,y7,y8⟩ | ⟨t',q,x,y1,y2,y3,y4,y5,y6⟩ | ⟨q,x,y1,y2,y3,y4⟩
  ·obtain ⟨hb,e1,e2,e3,e4,e5⟩:=sgt C y2
   rw [y1,y3]
   simp (disch:=omega) only [e4,SSx C]
   rcases H.args [] q n n' (by simp) (by omega) y5 (by omega) (by omega) with ⟨ys,q2,g1,g2,g3,g4,g5,g6⟩ | ⟨x',y',q2,pl,f,g1,g2,g3,g4,g5⟩
   ·rw [List.nil_append] at g2
    simp (disch:=omega) only [g1,g2,SSx C]
    exact .inl ⟨_,q2,by rw [a7c],rfl,by omega,g4,by simp only [szs]; omega,⟨.make (C.pos k) g6,at0 (by omega) rfl⟩⟩
   ·simp (disch:=omega) only [g1,g2,SSx C]
    exact .inr ⟨_,q2,pl,f,rfl,rfl,by omega,g4,g5⟩
  ·obtain ⟨f1,f2,f3,f4,f5⟩:=sgf C (by omega) y2
   obtain ⟨hb,e1,e2,e3,e4,e5⟩:=sgt C y3
   obtain ⟨hc,g1,g2,g3⟩:=nmt C y4
   rw [y1,y5]
   simp (disch:=omega) only [f4,e3,g1,SSx C]
   rcases sgx C hc 40 [] with ⟨b,hb,e1,e2,e3,e4,e5⟩ | ⟨b,e1,e2,e3,e4,e5⟩
   ·simp (disch:=omega) only [e4,b,SSx C]
    rcases H.args [] (q + 1 + 1) n n' (by simp) (by omega) hc (by omega) (by omega) with ⟨ys,q2,g1,g2,g3,g4,g5,g6⟩ | ⟨x',y',q2,pl,f,g1,g2,g3,g4,g5⟩
    ·rw [List.nil_append] at g2
     simp (disch:=omega) only [g1,g2,SSx C]
     exact .inl ⟨_,q2,by rw [a7c],rfl,by omega,g4,by simp only [szs]; omega,⟨.stat1 (C.pos k) g6,at0 (by omega) rfl⟩⟩
    ·simp (disch:=omega) only [g1,g2,SSx C]
     exact .inr ⟨_,q2,pl,f,rfl,rfl,by omega,g4,g5⟩
   ·simp (disch:=omega) only [e4,b,SSx C]
    exact .inl ⟨_,q + 1 + 1,by rw [a7c],rfl,by omega,hc,by simp only [szs]; omega,⟨.stat0 (C.pos k),at0 (by omega) rfl⟩⟩
  ·obtain ⟨f1,f2,f3,f4,f5⟩:=sgf C y6 y2
   obtain ⟨e1,e2,e3,e4,e5⟩:=sgf C y6 y3
   rw [y1,y4]
   simp (disch:=omega) only [f4,e3,SSx C]
   exact .inr ⟨_,q,-1,_,rfl,rfl,by omega,y6,a0s lo l size q⟩
  ·rw [y1,y2]
   simp (disch:=omega) only [SSx C]
   exact .inr ⟨_,q,-1,_,rfl,rfl,by omega,y4,a0s lo l size q⟩
 ·rw [p1 true,p2,Option.bind_some]
  obtain ⟨n',rfl⟩:∃ q,n' = q + 1:=⟨n' - 1,by omega⟩
  simp (disch:=omega) only [Z5.eq_2,SSx C]
  exact .inr ⟨_,q0,-1,_,rfl,rfl,by omega,p4,a0s lo l size q0⟩
theorem b9y {n n' k:Nat} (h1:isK l 1 k = true) :
  (j5.fs (n + 1)).a0r l k size = some (.ok ((⟨54,N9 l k,0,zT,[],[],H7 l size k⟩:Nod),((k + 1:Nat):Int))) /\
  (l5.fs (n' + 1)).a2J l size k (-1) = cond (isT l 8 [40] (k + 1)) (((l5.fs n').S9 ([]:List Nod) l size ((k + 1:Nat):Int) (-1)).bind fun (r26,r27,at28,b6w,gone30)=>some (((⟨56,N9 l k,0,(⟨0,[],0,[]⟩:Typ),[],r26,H7 l size k⟩:Nod),r27,at28,b6w))) (some (((⟨54,N9 l k,0,(⟨0,[],0,[]⟩:Typ),[],[],H7 l size k⟩:Nod),true,((k + 1:Nat):Int),-1))):=by
 have hl:=C.hl
 obtain ⟨hb,g1,g2,g3⟩:=nmt C h1
 have hk:k <= l.length:=by omega
 obtain ⟨a1,a2,a3,a4⟩:=kdf C (kind:=3) hk (b3R C h1 (by decide))
 obtain ⟨b1,b2,b3,b4⟩:=kdf C (kind:=4) hk (b3R C h1 (by decide))
 obtain ⟨c1,c2,c3,c4⟩:=kdf C (kind:=5) hk (b3R C h1 (by decide))
 obtain ⟨d1,d2⟩:=kyf C hk (b3R C h1 (by decide)) 116 [114,117,101]
 obtain ⟨f1,f2⟩:=kyf C hk (b3R C h1 (by decide)) 102 [97,108,115,101]
 have nx:=a7n C.hl hb size (-1) 8 [40]
 constructor
 ·show a0L n (j5.fs n) l k size = _
  unfold a0L
  simp (disch:=omega) only [a1,b1,c1,d1,f1,g1,g3,SSx C]
 ·show a1Y n' (l5.fs n') l size k (-1) = _
  unfold a1Y
  simp (disch:=omega) only [a3,b3,c2,d2,f2,g2,nx,SSx C]
theorem a6s {N n n' k0:Nat} (hN:24000 <= N) (hn:N <= n) (hn':N <= n') (H:Hyp lo l size (k0 + 1) N):∀ (m m' k:Nat) (x:Nod),k0 + 1 <= k -> k <= l.length -> l.length - k < m -> l.length - k + 1 < m' -> x.sz + 4 * k0 <= 4 * k -> GA l size k0 x k ->
  a2X lo l size k0 Nod.sz (GA l size k0) (O4 n (j5.fs n) size l m false k x) (P7 (α:=Bool × Int × Int × Nod) (U4 n' (l5.fs n') size l m' true k (-1) x) fun (b7t,b47,a6I,n555)=>some ((n555,b7t,b47,a6I)))
 | 0,m',k,x,h1,h2,h3,h4,h5,h6=>by omega
 | m + 1,0,k,x,h1,h2,h3,h4,h5,h6=>by omega
 | m + 1,1,k,x,h1,h2,h3,h4,h5,h6=>by omega
 | m + 1,m' + 2,k,x,h1,h2,h3,h4,h5,h6=>by
  have hl:=C.hl
  have e0:∀ (q pl:Int) (y:Nod),U4 n' (l5.fs n') size l (m' + 1) false q pl y = some (.brk (false,q,pl,y)):=fun _ _ _=>rfl
  have one:∀ ys:List Nod,szN ys <= 20000 -> app 144 [x] ys = some ([x] ++ ys):=fun ys h=>a1s (by simp) (by have:=X7 ys; omega) (by omega)
  rw [O4.eq_2,U4.eq_2,cond_true]
  rcases sgx C h2 46 [] with ⟨b,hb,e1,e2,e3,e4,e5⟩ | ⟨b,e1,e2,e3,e4,e5⟩
  ·rw [e1,e2]
   simp only [Option.bind_some,cond_true]
   rcases nmx C hb with ⟨c,hc,e1,e2,e3⟩ | ⟨c,e1,e2,e3⟩
   ·simp (disch:=omega) only [e1,e2,SSx C]
    rcases sgx C hc 40 [] with ⟨b,hb2,e1,e2,e3,e4,e5⟩ | ⟨b,e1,e2,e3,e4,e5⟩
    ·simp only [e4,e5,Option.bind_some,cond_true]
     rcases H.args [x] (k + 1 + 1) n n' (by simp) (by omega) hc hn hn' with ⟨ys,q,g1,g2,g3,g4,g5,g6⟩ | ⟨x',y',q,pl,f,g1,g2,g3,g4,g5⟩
     ·simp only [g1,g2,H6,Option.bind_some,one ys (by omega),a1y,U3]
      exact a6s hN hn hn' H m (m' + 1) q ⟨57,N9 l (k + 1),0,zT,[],[x] ++ ys,x.at_⟩ (by omega) g4 (by omega) (by omega) (by simp only [szs]; omega) ⟨.method h6.1.at h6.1 g6,h6.2.up (Nat.le_refl _) (by omega) rfl⟩
     ·simp only [g1,g2,N7,Option.bind_some,a4j,W9,e0,U3]
      exact .inr ⟨_,q,pl,f,rfl,rfl,by omega,g4,g5⟩
    ·simp only [e4,e5,Option.bind_some,cond_false,a1y,U3]
     exact a6s hN hn hn' H m (m' + 1) (k + 1 + 1) ⟨55,N9 l (k + 1),0,zT,[],[x],x.at_⟩ (by omega) hc (by omega) (by omega) (by simp only [szs]; omega) ⟨.field h6.1.at h6.1,h6.2.up (Nat.le_refl _) (by omega) rfl⟩
   ·simp (disch:=omega) only [e1,e2,SSx C]
    exact .inr ⟨_,k + 1,-1,_,rfl,rfl,by omega,hb,a0s lo l size (k + 1)⟩
  ·rw [e1,e2]
   simp only [Option.bind_some,cond_false]
   rcases sgx C h2 40 [] with ⟨b,hb2,e1,e2,e3,e4,e5⟩ | ⟨b,e1,e2,e3,e4,e5⟩
   ·simp only [e4,e5,Option.bind_some,cond_true]
    rcases H.args [x] k n n' (by simp) (by omega) h2 hn hn' with ⟨ys,q,g1,g2,g3,g4,g5,g6⟩ | ⟨x',y',q,pl,f,g1,g2,g3,g4,g5⟩
    ·simp only [g1,g2,H6,Option.bind_some,one ys (by omega),a1y,U3]
     exact a6s hN hn hn' H m (m' + 1) q ⟨60,[],0,zT,[],[x] ++ ys,x.at_⟩ (by omega) g4 (by omega) (by omega) (by simp only [szs]; omega) ⟨.apply h6.1.at h6.1 g6,h6.2.up (Nat.le_refl _) (by omega) rfl⟩
    ·simp only [g1,g2,N7,Option.bind_some,a4j,W9,e0,U3]
     exact .inr ⟨_,q,pl,f,rfl,rfl,by omega,g4,g5⟩
   ·simp only [e4,e5,Option.bind_some,cond_false,W9]
    exact .inl ⟨x,k,rfl,rfl,by omega,h2,h5,h6⟩
theorem post_at {N n n' k:Nat} (hN:24000 <= N) (hn:N + 3 <= n) (hn':N + 3 <= n') (hk:k <= l.length) (H:Hyp lo l size (k + 1) N) :
  a2X lo l size k Nod.sz (GA l size k) ((j5.fs n).Y9 l k size) ((l5.fs n').a2M l size k (-1)):=by
 have hl:=C.hl
 obtain ⟨n,rfl⟩:∃ q,n = q + 1:=⟨n - 1,by omega⟩
 obtain ⟨n',rfl⟩:∃ q,n' = q + 1:=⟨n' - 1,by omega⟩
 show a2X lo l size k Nod.sz (GA l size k) (a1f n (j5.fs n) l k size) (a3w n' (l5.fs n') l size k (-1))
 unfold a1f a3w
 have e0:∀ (q pl:Int) (y:Nod),U4 n' (l5.fs n') size l n' false q pl y = some (.brk (false,q,pl,y)):=by
  obtain ⟨m,rfl⟩:∃ q,n' = q + 1:=⟨n' - 1,by omega⟩
  exact fun _ _ _=>rfl
 rw [b3S C.hl hk size 1,Option.bind_some]
 cases h1:isK l 1 k
 ·rcases atom_at C (n:=n) (n':=n') hN (by omega) (by omega) hk H h1 with ⟨x,q,p1,p2,p3,p4,p5,p6⟩ | ⟨x,q,pl,f,p1,p2,p3,p4,p5⟩
  ·rw [p1,p2,H6,Option.bind_some]
   have hx:=x.a2q
   exact a6s C (n:=n) (n':=n') hN (by omega) (by omega) H n n' q x (by omega) p4 (by omega) (by omega) p5 p6
  ·rw [p1,p2,N7,Option.bind_some]
   simp only [e0,U3]
   exact .inr ⟨_,q,pl,f,rfl,rfl,p3,p4,p5⟩
 ·obtain ⟨n1,rfl⟩:∃ q,n = q + 1:=⟨n - 1,by omega⟩
  obtain ⟨n1',rfl⟩:∃ q,n' = q + 1:=⟨n' - 1,by omega⟩
  obtain ⟨a1,a2⟩:=b9y C (n:=n1) (n':=n1') h1
  obtain ⟨hb,_⟩:=nmt C h1
  have gn:GA l size k (⟨54,N9 l k,0,zT,[],[],H7 l size k⟩:Nod) (k + 1):=⟨.name (C.pos k),at0 (by omega) rfl⟩
  rw [a1,a2,H6]
  simp only
  rcases sgx C hb 40 [] with ⟨b,hb2,e1,e2,e3,e4,e5⟩ | ⟨b,e1,e2,e3,e4,e5⟩
  ·obtain ⟨f1,f2,f3,f4,f5⟩:=sgf C hb (b6i C b (u:=[46]) (by decide))
   rw [b,cond_true,O4.eq_2,f1]
   simp only [e4,Option.bind_some,cond_false,cond_true]
   rcases H.args [] (k + 1) (n1 + 1) n1' (by simp) (Nat.le_refl _) hb (by omega) (by omega) with ⟨ys,q,g1,g2,g3,g4,g5,g6⟩ | ⟨x',y',q,pl,f,g1,g2,g3,g4,g5⟩
   ·rw [List.nil_append] at g2
    simp only [g1,g2,H6,Option.bind_some,U3]
    exact a6s C (n:=n1 + 1) (n':=n1' + 1) hN (by omega) (by omega) H n1 (n1' + 1) q ⟨56,N9 l k,0,zT,[],ys,H7 l size k⟩ (by omega) g4 (by omega) (by omega) (by simp only [szs]; omega) ⟨.call (C.pos k) g6,at0 (by omega) rfl⟩
   ·simp only [g1,g2,N7,Option.bind_some,W9,e0,U3]
    exact .inr ⟨_,q,pl,f,rfl,rfl,by omega,g4,g5⟩
  ·rw [b,cond_false,Option.bind_some]
   have hb0:∀ m,O4 (n1 + 1) (j5.fs (n1 + 1)) size l m true ((k + 1:Nat):Int) (⟨54,N9 l k,0,zT,[],[],H7 l size k⟩:Nod) = O4 (n1 + 1) (j5.fs (n1 + 1)) size l m false ((k + 1:Nat):Int) (⟨54,N9 l k,0,zT,[],[],H7 l size k⟩:Nod):=by
    intro m
    cases m with
    | zero=>rfl
    | succ m =>
     rcases sgx C hb 46 [] with ⟨b,_,f1,f2,f3,f4,f5⟩ | ⟨b,f1,f2,f3,f4,f5⟩ <;> simp only [O4.eq_2,e4,f1,Option.bind_some,cond_false,cond_true]
   rw [hb0]
   exact a6s C (n:=n1 + 1) (n':=n1' + 1) hN (by omega) (by omega) H (n1 + 1) (n1' + 1) (k + 1) _ (Nat.le_refl _) hb (by omega) (by omega) (by simp only [szs]; omega) gn
theorem unary_at {N n n' k:Nat} (hN:24000 <= N) (hn:N + 4 <= n) (hn':N + 4 <= n') (hk:k <= l.length) (H:Hyp lo l size (k + 1) N) :
  a2X lo l size k Nod.sz (GA l size k) ((j5.fs n).I6 l k size) ((l5.fs n').Q8 l size k (-1)):=by
 have hl:=C.hl
 obtain ⟨n,rfl⟩:∃ q,n = q + 1:=⟨n - 1,by omega⟩
 obtain ⟨n',rfl⟩:∃ q,n' = q + 1:=⟨n' - 1,by omega⟩
 show a2X lo l size k Nod.sz (GA l size k) (a1O n (j5.fs n) l k size) (a4e n' (l5.fs n') l size k (-1))
 unfold a1O a4e
 rcases sgx C hk 45 [] with ⟨b,hb,e1,e2,e3,e4,e5⟩ | ⟨b,e1,e2,e3,e4,e5⟩
 ·simp (disch:=omega) only [e1,e2,SSx C]
  rcases H.unary (k + 1) n n' (Nat.le_refl _) hb (by omega) (by omega) with ⟨x,q,p1,p2,p3,p4,p5,p6⟩ | ⟨x,q,pl,f,p1,p2,p3,p4,p5⟩
  ·simp only [p1,p2,H6,Option.bind_some]
   exact .inl ⟨_,q,rfl,rfl,by omega,p4,by simp only [szs]; omega,⟨.un (.inr rfl) (C.pos k) p6.1,at0 (by omega) rfl⟩⟩
  ·simp only [p1,p2,N7,Option.bind_some]
   exact .inr ⟨_,q,pl,f,rfl,rfl,by omega,p4,p5⟩
 simp (disch:=omega) only [e1,e2,SSx C]
 rcases sgx C hk 33 [] with ⟨b,hb,e1,e2,e3,e4,e5⟩ | ⟨b,e1,e2,e3,e4,e5⟩
 ·simp (disch:=omega) only [e1,e2,SSx C]
  rcases H.unary (k + 1) n n' (Nat.le_refl _) hb (by omega) (by omega) with ⟨x,q,p1,p2,p3,p4,p5,p6⟩ | ⟨x,q,pl,f,p1,p2,p3,p4,p5⟩
  ·simp only [p1,p2,H6,Option.bind_some]
   exact .inl ⟨_,q,rfl,rfl,by omega,p4,by simp only [szs]; omega,⟨.un (.inl rfl) (C.pos k) p6.1,at0 (by omega) rfl⟩⟩
  ·simp only [p1,p2,N7,Option.bind_some]
   exact .inr ⟨_,q,pl,f,rfl,rfl,by omega,p4,p5⟩
 simp (disch:=omega) only [e1,e2,SSx C]
 rcases post_at C (n:=n) (n':=n') hN (by omega) (by omega) hk H with ⟨x,q,p1,p2,p3,p4,p5,p6⟩ | ⟨x,q,pl,f,p1,p2,p3,p4,p5⟩
 ·simp only [p1,p2,H6,Option.bind_some,W9]
  exact .inl ⟨x,q,rfl,rfl,p3,p4,p5,p6⟩
 ·simp only [p1,p2,N7,Option.bind_some,W9]
  exact .inr ⟨x,q,pl,f,rfl,rfl,p3,p4,p5⟩
end
end Go.Proofs.YtmhiojdkjokccaaGreatDoor
namespace Go.Proofs.YtmhiojdkjokccaaGreatDoor
open Go Go.Vm
section
variable {lo:Nat} {l:List Tok} {size:Int} (C:Cx l size)
include C
theorem kyt {k:Nat} {a:UInt8} {r:Str} (h:isT l 9 (a :: r) k = true):k + 1 <= l.length /\ F3 (a :: r) l k size = some (true,((k + 1:Nat):Int)) /\ G5 (a :: r) l size k (-1) = some (true,((k + 1:Nat):Int)) /\ J2 (a :: r) l k size = some (.ok ((k + 1:Nat):Int)) /\ u6 0 9 (a :: r) l k size = some true /\ I5 9 (a :: r) l size k (-1) = some true:=by
 rcases kyx C (Nat.le_of_lt (a5u h)) a r with ⟨_,h⟩ | ⟨h2,_⟩
 ·exact h
 ·rw [h] at h2; cases h2
theorem kyn {k:Nat} {a:UInt8} {r:Str} (hk:k <= l.length) (h:isT l 9 (a :: r) k = false):F3 (a :: r) l k size = some (false,(k:Int)) /\ G5 (a :: r) l size k (-1) = some (false,(k:Int)) /\ J2 (a :: r) l k size = some (.pan (H7 l size k,(k:Int))) /\ u6 0 9 (a :: r) l k size = some false /\ I5 9 (a :: r) l size k (-1) = some false:=by
 rcases kyx C hk a r with ⟨h2,_⟩ | ⟨_,h⟩
 ·rw [h] at h2; cases h2
 ·exact h
theorem b7o {N n n' k:Nat} (hN:24000 <= N) (hn:N + 1 <= n) (hn':N + 1 <= n') (hk:k <= l.length) (H:Hyp lo l size (k + 1) N) (hw:isT l 9 [108,101,116] k = true ∨ isT l 9 [118,97,114] k = true) :
    a2X lo l size k Nod.sz (fun x _=>G 1 x) ((j5.fs n).a0z l k size) ((l5.fs n').a3t l size k (-1)):=by
  have hl:=C.hl
  obtain ⟨n,rfl⟩:∃ q,n = q + 1:=⟨n - 1,by omega⟩
  obtain ⟨n',rfl⟩:∃ q,n' = q + 1:=⟨n' - 1,by omega⟩
  show a2X lo l size k Nod.sz (fun x _=>G 1 x) (a1L n (j5.fs n) l k size) (a4c n' (l5.fs n') l size k (-1))
  unfold a1L a4c
  obtain ⟨nn,hb,hnn,m1,m2⟩:∃ nn:Int,k + 1 <= l.length /\ (nn = 0 ∨ nn = 1) /\ ((F3 [118,97,114] l k size).bind fun (r5,at6) =>
      cond r5 (
      some (.brk (at6,1))) (
      A8 (J2 [108,101,116] l at6 size) (fun at7 =>
      some (.brk (at7,0))) fun (at8,at9) =>
      some (.out (.pan ((⟨(⟨20,at8⟩:Flt)⟩:o5),at9))))) = some (Lr.brk (α:=Int × Int) (ρ:=Rs (Nod × Int) (o5 × Int)) (((k + 1:Nat):Int),nn)) /\ ((G5 [118,97,114] l size k (-1)).bind fun (r6,at7) =>
      cond r6 (
      some (at7,(1:Int))) (
      (G5 [108,101,116] l size at7 (-1)).bind fun (r8,at9) =>
      some (at9,(0:Int)))) = some ((((k + 1:Nat):Int),nn):Int × Int):=by
    rcases kyx C hk 118 [97,114] with ⟨b,hb,e1,e2,e3,e4,e5⟩ | ⟨b,e1,e2,e3,e4,e5⟩
    · rw [e1,e2]; exact ⟨1,hb,.inr rfl,rfl,rfl⟩
    · have hw:isT l 9 [108,101,116] k = true:=by
        rcases hw with h | h
        · exact h
        · rw [h] at b; cases b
      obtain ⟨hb,f1,f2,f3,f4,f5⟩:=kyt C hw
      rw [e1,e2]
      simp only [Option.bind_some,cond_false]
      rw [f2,f3]; exact ⟨0,hb,.inl rfl,rfl,rfl⟩
  rw [a3I C hk,a6q C.hl hk,Option.bind_some,Option.bind_some,m1,m2,U3,Option.bind_some]
  rcases nmx C hb with ⟨c,hc,e1,e2,e3⟩ | ⟨c,e1,e2,e3⟩
  case inr =>
    simp (disch:=omega) only [e1,e2,SSx C]
    exact .inr ⟨_,k + 1,-1,_,rfl,rfl,by omega,hb,a0s lo l size (k + 1)⟩
  have v1:eqB 1 1 = true:=a4w rfl
  have v2:eqB 0 1 = false:=a5X (by decide)
  have v3:eqB 1 0 = false:=a5X (by decide)
  have v4:eqB 0 0 = true:=a4w rfl
  simp (disch:=omega) only [e1,e2,SSx C]
  rcases sgx C hc 58 [] with ⟨b,hd,e1,e2,e3,e4,e5⟩ | ⟨b,e1,e2,e3,e4,e5⟩
  · simp (disch:=omega) only [e1,e2,SSx C]
    rcases typ4 C (n:=n) (n':=n') hd (by omega) (by omega) with ⟨t,r,p1,p2,p3,p4,p5⟩ | ⟨t,r,p1,p2,p3,p4⟩
    case inr =>
      simp (disch:=omega) only [p1,p2,SSx C]
      exact .inr ⟨_,r,-1,_,rfl,rfl,by omega,p4,a0s lo l size r⟩
    simp (disch:=omega) only [p1,p2,SSx C]
    rcases hnn with rfl | rfl
    · simp (disch:=omega) only [v2,SSx C]
      rcases sgx C p4 61 [] with ⟨b,hs,e1,e2,e3,e4,e5⟩ | ⟨b,e1,e2,e3,e4,e5⟩
      · simp (disch:=omega) only [e2,e3,SSx C]
        rcases H.expr (r + 1) n n' (by omega) hs (by omega) (by omega) with ⟨x,q,s1,s2,s3,s4,s5,s6⟩ | ⟨x,q,pl,f,s1,s2,s3,s4,s5⟩
        · simp (disch:=omega) only [s1,s2,SSx C]
          rcases sgx C s4 59 [] with ⟨b,hs,e1,e2,e3,e4,e5⟩ | ⟨b,e1,e2,e3,e4,e5⟩
          · simp (disch:=omega) only [e2,e3,SSx C]
            exact .inl ⟨⟨21,N9 l (k + 1),0,t,[],[x],H7 l size k⟩,q + 1,by rw [a7c],by rw [a7c],by omega,hs,by simp only [nsz,tsz,a7y,a7x,a6S,a7c]; omega,.let1 (C.pos k) (.inl rfl) s6.1⟩
          · simp (disch:=omega) only [e2,e3,SSx C]
            exact .inr ⟨_,q,-1,_,rfl,rfl,by omega,s4,a0s lo l size q⟩
        · simp (disch:=omega) only [s1,s2,SSx C]
          exact .inr ⟨_,q,pl,f,rfl,rfl,by omega,s4,s5⟩
      · simp (disch:=omega) only [e2,e3,v4,SSx C]
        exact .inr ⟨_,r,-1,_,rfl,rfl,by omega,p4,a0s lo l size (r)⟩
    · simp (disch:=omega) only [v1,SSx C]
      rcases sgx C p4 59 [] with ⟨b,hs,e1,e2,e3,e4,e5⟩ | ⟨b,e1,e2,e3,e4,e5⟩
      · obtain ⟨f1,f2,f3,f4,f5⟩:=sgf C p4 (b6i C b (u:=[61]) (by decide))
        simp (disch:=omega) only [e1,e2,f2,v3,SSx C]
        exact .inl ⟨_,r + 1,by rw [a7c],rfl,by omega,hs,by simp only [nsz,tsz,a7y,a7x,a7c]; omega,.let0 (C.pos k)⟩
      · simp (disch:=omega) only [e1,SSx C]
        have g2:=e2
        rcases sgx C p4 61 [] with ⟨b,hs,e1,e2,e3,e4,e5⟩ | ⟨b,e1,e2,e3,e4,e5⟩
        · simp (disch:=omega) only [e2,e3,SSx C]
          rcases H.expr (r + 1) n n' (by omega) hs (by omega) (by omega) with ⟨x,q,s1,s2,s3,s4,s5,s6⟩ | ⟨x,q,pl,f,s1,s2,s3,s4,s5⟩
          · simp (disch:=omega) only [s1,s2,SSx C]
            rcases sgx C s4 59 [] with ⟨b,hs,e1,e2,e3,e4,e5⟩ | ⟨b,e1,e2,e3,e4,e5⟩
            · simp (disch:=omega) only [e2,e3,SSx C]
              exact .inl ⟨⟨21,N9 l (k + 1),1,t,[],[x],H7 l size k⟩,q + 1,by rw [a7c],by rw [a7c],by omega,hs,by simp only [nsz,tsz,a7y,a7x,a6S,a7c]; omega,.let1 (C.pos k) (.inr rfl) s6.1⟩
            · simp (disch:=omega) only [e2,e3,SSx C]
              exact .inr ⟨_,q,-1,_,rfl,rfl,by omega,s4,a0s lo l size q⟩
          · simp (disch:=omega) only [s1,s2,SSx C]
            exact .inr ⟨_,q,pl,f,rfl,rfl,by omega,s4,s5⟩
        · simp (disch:=omega) only [e2,e3,g2,v3,SSx C]
          exact .inr ⟨_,r,-1,_,rfl,rfl,by omega,p4,a0s lo l size (r)⟩
  · simp (disch:=omega) only [e1,e2,SSx C]
    rcases hnn with rfl | rfl
    · simp (disch:=omega) only [v2,SSx C]
      rcases sgx C hc 61 [] with ⟨b,hs,e1,e2,e3,e4,e5⟩ | ⟨b,e1,e2,e3,e4,e5⟩
      · simp (disch:=omega) only [e2,e3,SSx C]
        rcases H.expr (k + 1 + 1 + 1) n n' (by omega) hs (by omega) (by omega) with ⟨x,q,s1,s2,s3,s4,s5,s6⟩ | ⟨x,q,pl,f,s1,s2,s3,s4,s5⟩
        · simp (disch:=omega) only [s1,s2,SSx C]
          rcases sgx C s4 59 [] with ⟨b,hs,e1,e2,e3,e4,e5⟩ | ⟨b,e1,e2,e3,e4,e5⟩
          · simp (disch:=omega) only [e2,e3,SSx C]
            exact .inl ⟨⟨21,N9 l (k + 1),0,zT,[],[x],H7 l size k⟩,q + 1,rfl,rfl,by omega,hs,by simp only [nsz,tsz,a7y,a7x,a6S,a7c]; omega,.let1 (C.pos k) (.inl rfl) s6.1⟩
          · simp (disch:=omega) only [e2,e3,SSx C]
            exact .inr ⟨_,q,-1,_,rfl,rfl,by omega,s4,a0s lo l size q⟩
        · simp (disch:=omega) only [s1,s2,SSx C]
          exact .inr ⟨_,q,pl,f,rfl,rfl,by omega,s4,s5⟩
      · simp (disch:=omega) only [e2,e3,v4,SSx C]
        exact .inr ⟨_,k + 1 + 1,-1,_,rfl,rfl,by omega,hc,a0s lo l size (k + 1 + 1)⟩
    · simp (disch:=omega) only [v1,SSx C]
      rcases sgx C hc 61 [] with ⟨b,hs,e1,e2,e3,e4,e5⟩ | ⟨b,e1,e2,e3,e4,e5⟩
      · simp (disch:=omega) only [e2,e3,SSx C]
        rcases H.expr (k + 1 + 1 + 1) n n' (by omega) hs (by omega) (by omega) with ⟨x,q,s1,s2,s3,s4,s5,s6⟩ | ⟨x,q,pl,f,s1,s2,s3,s4,s5⟩
        · simp (disch:=omega) only [s1,s2,SSx C]
          rcases sgx C s4 59 [] with ⟨b,hs,e1,e2,e3,e4,e5⟩ | ⟨b,e1,e2,e3,e4,e5⟩
          · simp (disch:=omega) only [e2,e3,SSx C]
            exact .inl ⟨⟨21,N9 l (k + 1),1,zT,[],[x],H7 l size k⟩,q + 1,rfl,rfl,by omega,hs,by simp only [nsz,tsz,a7y,a7x,a6S,a7c]; omega,.let1 (C.pos k) (.inr rfl) s6.1⟩
          · simp (disch:=omega) only [e2,e3,SSx C]
            exact .inr ⟨_,q,-1,_,rfl,rfl,by omega,s4,a0s lo l size q⟩
        · simp (disch:=omega) only [s1,s2,SSx C]
          exact .inr ⟨_,q,pl,f,rfl,rfl,by omega,s4,s5⟩
      · simp (disch:=omega) only [e2,e3,v3,SSx C]
        exact .inr ⟨_,k + 1 + 1,-1,_,rfl,rfl,by omega,hc,a0s lo l size (k + 1 + 1)⟩
theorem block_at {N n n' k:Nat} (hN:24000 <= N) (hn:N + 1 <= n) (hn':N + 1 <= n') (hk:k <= l.length) (H:Hyp lo l size (k + 1) N) :
  a2X lo l size k Nod.sz (fun x _=>G 2 x) ((j5.fs n).F8 l k size) ((l5.fs n').Q7 l size k (-1)):=by
 have hl:=C.hl
 obtain ⟨n,rfl⟩:∃ q,n = q + 1:=⟨n - 1,by omega⟩
 obtain ⟨n',rfl⟩:∃ q,n' = q + 1:=⟨n' - 1,by omega⟩
 show a2X lo l size k Nod.sz (fun x _=>G 2 x) (a1K n (j5.fs n) l k size) (a4b n' (l5.fs n') l size k (-1))
 unfold a1K a4b
 rcases sgx C hk 123 [] with ⟨b,hb,e1,e2,e3,e4,e5⟩ | ⟨b,e1,e2,e3,e4,e5⟩
 ·simp (disch:=omega) only [e2,e3,SSx C]
  rcases H.stmts (k + 1) n n' (Nat.le_refl _) hb (by omega) (by omega) with ⟨x,q,p1,p2,p3,p4,p5,p6⟩ | ⟨x,q,pl,f,p1,p2,p3,p4,p5⟩
  ·have p5:szN x + 4 + 4 * (k + 1) <= 4 * q:=p5
   simp (disch:=omega) only [p1,p2,SSx C]
   exact .inl ⟨_,q,rfl,rfl,by omega,p4,by simp only [szs]; omega,.block (C.pos k) p6⟩
  ·simp (disch:=omega) only [p1,p2,SSx C]
   exact .inr ⟨_,q,pl,f,rfl,rfl,by omega,p4,p5⟩
 ·simp (disch:=omega) only [e2,e3,SSx C]
  exact .inr ⟨_,k,-1,_,rfl,rfl,Nat.le_refl _,hk,a0s lo l size k⟩
theorem if_at {N n n' k:Nat} (hN:24000 <= N) (hn:N + 1 <= n) (hn':N + 1 <= n') (hk:k <= l.length) (H:Hyp lo l size (k + 1) N) (hw:isT l 9 [105,102] k = true) :
  a2X lo l size k Nod.sz (fun x _=>G 1 x /\ x.op = 24) ((j5.fs n).M0 l k size) ((l5.fs n').a0h l size k (-1)):=by
 have hl:=C.hl
 obtain ⟨n,rfl⟩:∃ q,n = q + 1:=⟨n - 1,by omega⟩
 obtain ⟨n',rfl⟩:∃ q,n' = q + 1:=⟨n' - 1,by omega⟩
 show a2X lo l size k Nod.sz (fun x _=>G 1 x /\ x.op = 24) (a0y n (j5.fs n) l k size) (a2p n' (l5.fs n') l size k (-1))
 unfold a0y a2p
 obtain ⟨hb,e1,e2,e3,e4,e5⟩:=kyt C hw
 simp (disch:=omega) only [e2,e3,SSx C]
 rcases H.expr (k + 1) n n' (Nat.le_refl _) hb (by omega) (by omega) with ⟨x,q,p1,p2,p3,p4,p5,p6⟩ | ⟨x,q,pl,f,p1,p2,p3,p4,p5⟩
 case inr =>
  simp (disch:=omega) only [p1,p2,SSx C]
  exact .inr ⟨_,q,pl,f,rfl,rfl,by omega,p4,p5⟩
 have hx:=x.a2q
 simp (disch:=omega) only [p1,p2,SSx C]
 rcases H.block q n n' (by omega) p4 (by omega) (by omega) with ⟨y,q2,r1,r2,r3,r4,r5,r6⟩ | ⟨y,q2,pl,f,r1,r2,r3,r4,r5⟩
 case inr =>
  simp (disch:=omega) only [r1,r2,SSx C]
  exact .inr ⟨_,q2,pl,f,rfl,rfl,by omega,r4,r5⟩
 have hy:=y.a2q
 simp (disch:=omega) only [r1,r2,b44 x y (show 144 <= 1000 by omega),SSx C]
 rcases kyx C r4 101 [108,115,101] with ⟨b,hb,e1,e2,e3,e4,e5⟩ | ⟨b,e1,e2,e3,e4,e5⟩
 ·simp (disch:=omega) only [e1,e2,SSx C]
  rcases kyx C hb 105 [102] with ⟨b,hb2,e1,e2,e3,e4,e5⟩ | ⟨b,e1,e2,e3,e4,e5⟩
  ·simp (disch:=omega) only [e4,e5,SSx C]
   rcases H.iff (q2 + 1) n n' b (by omega) hb (by omega) (by omega) with ⟨z,q3,s1,s2,s3,s4,s5,s6⟩ | ⟨z,q3,pl,f,s1,s2,s3,s4,s5⟩
   ·simp (disch:=omega) only [s1,s2,app_2 x y z (show 144 <= 1000 by omega),SSx C]
    exact .inl ⟨_,q3,rfl,rfl,by omega,s4,by simp only [szs]; omega,.if4 (C.pos k) p6.1 r6 s6.1 s6.2,rfl⟩
   ·simp (disch:=omega) only [s1,s2,SSx C]
    exact .inr ⟨_,q3,pl,f,rfl,rfl,by omega,s4,s5⟩
  ·simp (disch:=omega) only [e4,e5,SSx C]
   rcases H.block (q2 + 1) n n' (by omega) hb (by omega) (by omega) with ⟨z,q3,s1,s2,s3,s4,s5,s6⟩ | ⟨z,q3,pl,f,s1,s2,s3,s4,s5⟩
   ·simp (disch:=omega) only [s1,s2,app_2 x y z (show 144 <= 1000 by omega),SSx C]
    exact .inl ⟨_,q3,rfl,rfl,by omega,s4,by simp only [szs]; omega,.if3 (C.pos k) p6.1 r6 s6,rfl⟩
   ·simp (disch:=omega) only [s1,s2,SSx C]
    exact .inr ⟨_,q3,pl,f,rfl,rfl,by omega,s4,s5⟩
 ·simp (disch:=omega) only [e1,e2,SSx C]
  exact .inl ⟨_,q2,rfl,rfl,by omega,r4,by simp only [szs]; omega,.if2 (C.pos k) p6.1 r6,rfl⟩
theorem b31 {N n n' k0:Nat} {x0:Nod} (hN:24000 <= N) (hn:N <= n) (hn':N <= n') (H:Hyp lo l size (k0 + 1) N):∀ (m m' k:Nat) (xs:List Nod),k0 <= k -> k <= l.length -> l.length - k < m -> l.length - k < m' -> szN xs + 4 * k0 <= 4 * k -> (∀ x ∈ xs,G 5 x) ->
  (∃ (q:Nat) (ys:List Nod),a0o n (j5.fs n) size l m k (x0 :: xs) = some (.brk ((q:Int),x0 :: ys)) /\ a1x n' (l5.fs n') size l m' (x0 :: xs) k (-1) = some (.brk (x0 :: ys,(q:Int),-1)) /\ k <= q /\ q <= l.length /\ szN ys + 4 * k0 <= 4 * q /\ ∀ x ∈ ys,G 5 x) ∨
  (∃ (q:Nat) (y:List Nod) (pl:Int) (f:o5),a0o n (j5.fs n) size l m k (x0 :: xs) = some (.out (.pan (f,(q:Int)))) /\ a1x n' (l5.fs n') size l m' (x0 :: xs) k (-1) = some (.out (y,false,(q:Int),pl)) /\ k <= q /\ q <= l.length /\ a4h lo l size q pl f)
 | 0,m',k,xs,h1,h2,h3,h4,h5,h6=>by omega
 | m + 1,0,k,xs,h1,h2,h3,h4,h5,h6=>by omega
 | m + 1,m' + 1,k,xs,h1,h2,h3,h4,h5,h6=>by
  have hl:=C.hl
  have hlen:=X7 xs
  rw [a0o.eq_2,a1x.eq_2]
  rcases kyx C h2 99 [97,115,101] with ⟨b,hb,e1,e2,e3,e4,e5⟩ | ⟨b,e1,e2,e3,e4,e5⟩
  ·simp (disch:=omega) only [e4,e5,e2,SSx C]
   rcases pat_sim C (n:=n) (n':=n') hb (by omega) (by omega) with ⟨x,q,p1,p2,p3,p4,p5,p6⟩ | ⟨x,q,p1,p2,p3,p4⟩
   case inr =>
    simp (disch:=omega) only [p1,p2,SSx C]
    exact .inr ⟨q,_,-1,_,rfl,rfl,by omega,p4,a0s lo l size q⟩
   have hx:=x.a2q
   simp (disch:=omega) only [p1,p2,SSx C]
   rcases H.block q n n' (by omega) p4 (by omega) (by omega) with ⟨y,q2,r1,r2,r3,r4,r5,r6⟩ | ⟨y,q2,pl,f,r1,r2,r3,r4,r5⟩
   case inr =>
    simp (disch:=omega) only [r1,r2,SSx C]
    exact .inr ⟨q2,_,pl,f,rfl,rfl,by omega,r4,r5⟩
   have hy:=y.a2q
   have a1:app 144 (x0 :: xs) [(⟨27,[],0,zT,[],[x,y],H7 l size k⟩:Nod)] = some (x0 :: (xs ++ [(⟨27,[],0,zT,[],[x,y],H7 l size k⟩:Nod)])):=a1s (l:=x0 :: xs) (by simp only [List.length_cons]; omega) (by simp) (by omega)
   simp (disch:=omega) only [r1,r2,b44 x y (show 144 <= 1000 by omega),a1,SSx C]
   rcases b31 hN hn hn' H m m' q2 (xs ++ [(⟨27,[],0,zT,[],[x,y],H7 l size k⟩:Nod)]) (by omega) r4 (by omega) (by omega) (by simp only [szs]; omega) (a4X h6 (a4i (.arm (C.pos k) p6 r6))) with ⟨q',ys,y1,y2,y3,y4,y5,y6⟩ | ⟨q',y,pl,f,y1,y2,y3,y4,y5⟩
   ·exact .inl ⟨q',ys,y1,y2,by omega,y4,y5,y6⟩
   ·exact .inr ⟨q',y,pl,f,y1,y2,by omega,y4,y5⟩
  ·simp (disch:=omega) only [e4,e5,SSx C]
   exact .inl ⟨k,xs,rfl,rfl,Nat.le_refl _,h2,h5,h6⟩
theorem match_at {N n n' k:Nat} (hN:24000 <= N) (hn:N + 1 <= n) (hn':N + 1 <= n') (hk:k <= l.length) (H:Hyp lo l size (k + 1) N) (hw:isT l 9 [109,97,116,99,104] k = true) :
  a2X lo l size k Nod.sz (fun x _=>G 1 x) ((j5.fs n).a0A l k size) (((l5.fs n').a3u (H7 l size k) l size ((k + 1:Nat):Int) (-1)).bind fun (l29,r30,at31,b1w)=>some (((⟨26,[],0,(⟨0,[],0,[]⟩:Typ),[],l29,H7 l size k⟩:Nod),r30,at31,b1w))):=by
 have hl:=C.hl
 obtain ⟨n,rfl⟩:∃ q,n = q + 1:=⟨n - 1,by omega⟩
 obtain ⟨n',rfl⟩:∃ q,n' = q + 1:=⟨n' - 1,by omega⟩
 show a2X lo l size k Nod.sz (fun x _=>G 1 x) (a1M n (j5.fs n) l k size) ((a4d n' (l5.fs n') (H7 l size k) l size ((k + 1:Nat):Int) (-1)).bind fun (l29,r30,at31,b1w)=>some (((⟨26,[],0,(⟨0,[],0,[]⟩:Typ),[],l29,H7 l size k⟩:Nod),r30,at31,b1w)))
 unfold a1M a4d
 obtain ⟨hb,e1,e2,e3,e4,e5⟩:=kyt C hw
 simp (disch:=omega) only [e3,SSx C]
 rcases H.expr (k + 1) n n' (Nat.le_refl _) hb (by omega) (by omega) with ⟨x,q,p1,p2,p3,p4,p5,p6⟩ | ⟨x,q,pl,f,p1,p2,p3,p4,p5⟩
 case inr =>
  simp (disch:=omega) only [p1,p2,SSx C]
  exact .inr ⟨_,q,pl,f,rfl,rfl,by omega,p4,p5⟩
 have hx:=x.a2q
 simp (disch:=omega) only [p1,p2,SSx C]
 rcases sgx C p4 123 [] with ⟨b,hb2,e1,e2,e3,e4,e5⟩ | ⟨b,e1,e2,e3,e4,e5⟩
 case inr =>
  simp (disch:=omega) only [e2,e3,SSx C]
  exact .inr ⟨_,q,-1,_,rfl,rfl,by omega,p4,a0s lo l size q⟩
 simp (disch:=omega) only [e2,e3,SSx C]
 rcases b31 C (n:=n) (n':=n') (k0:=q) (x0:=x) hN (by omega) (by omega) ⟨fun k n n' h=>H.expr k n n' (by omega),fun k n n' h=>H.unary k n n' (by omega),fun j k n n' hj h=>H.lev j k n n' hj (by omega),fun m0 k n n' hm h=>H.args m0 k n n' hm (by omega),fun k n n' h=>H.stmts k n n' (by omega),fun k n n' h=>H.stmt k n n' (by omega),fun k n n' h=>H.block k n n' (by omega),fun k n n' hi h=>H.iff k n n' hi (by omega)⟩ n n' (q + 1) [] (by omega) hb2 (by omega) (by omega) (by simp only [szs]; omega) all_nil with ⟨q',ys,y1,y2,y3,y4,y5,y6⟩ | ⟨q',y,pl,f,y1,y2,y3,y4,y5⟩
 case inr =>
  simp (disch:=omega) only [y1,y2,SSx C]
  exact .inr ⟨_,q',pl,f,rfl,rfl,by omega,y4,y5⟩
 have hyl:=X7 ys
 simp (disch:=omega) only [y1,y2,SSx C]
 rcases kyx C y4 100 [101,102,97,117,108,116] with ⟨b,hb,e1,e2,e3,e4,e5⟩ | ⟨b,e1,e2,e3,e4,e5⟩
 ·simp (disch:=omega) only [e1,e2,e5,SSx C]
  rcases H.block (q' + 1) n n' (by omega) hb (by omega) (by omega) with ⟨z,q3,s1,s2,s3,s4,s5,s6⟩ | ⟨z,q3,pl,f,s1,s2,s3,s4,s5⟩
  case inr =>
   simp (disch:=omega) only [s1,s2,SSx C]
   exact .inr ⟨_,q3,pl,f,rfl,rfl,by omega,s4,s5⟩
  have a1:∀ w:Nod,app 144 (x :: ys) [w] = some (x :: (ys ++ [w])):=fun w=>a1s (l:=x :: ys) (by simp only [List.length_cons]; omega) (by simp) (by omega)
  simp (disch:=omega) only [s1,s2,b44 _ z (show 144 <= 1000 by omega),a1,SSx C]
  rcases sgx C s4 125 [] with ⟨b,hb2,e1,e2,e3,e4,e5⟩ | ⟨b,e1,e2,e3,e4,e5⟩
  ·simp (disch:=omega) only [e2,e3,SSx C]
   exact .inl ⟨_,q3 + 1,rfl,rfl,by omega,hb2,by simp only [szs]; omega,.mat (C.pos k) p6.1 (a4X y6 (a4i (.arm (C.pos q') (.wild (C.pos q')) s6)))⟩
  ·simp (disch:=omega) only [e2,e3,SSx C]
   exact .inr ⟨_,q3,-1,_,rfl,rfl,by omega,s4,a0s lo l size q3⟩
 ·simp (disch:=omega) only [e1,e2,e5,SSx C]
  rcases sgx C y4 125 [] with ⟨b,hb2,e1,e2,e3,e4,e5⟩ | ⟨b,e1,e2,e3,e4,e5⟩
  ·simp (disch:=omega) only [e2,e3,SSx C]
   exact .inl ⟨_,q' + 1,rfl,rfl,by omega,hb2,by simp only [szs]; omega,.mat (C.pos k) p6.1 y6⟩
  ·simp (disch:=omega) only [e2,e3,SSx C]
   exact .inr ⟨_,q',-1,_,rfl,rfl,by omega,y4,a0s lo l size q'⟩
theorem kyv {k:Nat} (hk:k <= l.length) (a:UInt8) (r:Str):G5 (a :: r) l size k (-1) = some (isT l 9 (a :: r) k,((cond (isT l 9 (a :: r) k) (k + 1) k:Nat):Int)):=by
 rcases kyx C hk a r with ⟨b,_,_,e,_⟩ | ⟨b,_,e,_⟩ <;> rw [e,b] <;> rfl
theorem nxv {k:Nat} (hk:k <= l.length) (a:UInt8) (r:Str):I5 9 (a :: r) l size k (-1) = some (isT l 9 (a :: r) k):=a7n C.hl hk size (-1) 9 (a :: r)
omit C in
theorem wq:eqS [108,101,116] [108,101,116] = true /\ eqS [108,101,116] [118,97,114] = false /\ eqS [108,101,116] [105,102] = false /\ eqS [108,101,116] [109,97,116,99,104] = false /\ eqS [108,101,116] [100,101,102,101,114] = false /\ eqS [108,101,116] [119,104,105,108,101] = false /\ eqS [108,101,116] [114,101,116,117,114,110] = false /\ eqS [108,101,116] [116,104,114,111,119] = false /\ eqS [108,101,116] [100,111] = false /\ eqS [118,97,114] [108,101,116] = false /\ eqS [118,97,114] [118,97,114] = true /\ eqS [118,97,114] [105,102] = false /\ eqS [118,97,114] [109,97,116,99,104] = false /\ eqS [118,97,114] [100,101,102,101,114] = false /\ eqS [118,97,114] [119,104,105,108,101] = false /\ eqS [118,97,114] [114,101,116,117,114,110] = false /\ eqS [118,97,114] [116,104,114,111,119] = false /\ eqS [118,97,114] [100,111] = false /\ eqS [105,102] [108,101,116] = false /\ eqS [105,102] [118,97,114] = false /\ eqS [105,102] [105,102] = true /\ eqS [105,102] [109,97,116,99,104] = false /\ eqS [105,102] [100,101,102,101,114] = false /\ eqS [105,102] [119,104,105,108,101] = false /\ eqS [105,102] [114,101,116,117,114,110] = false /\ eqS [105,102] [116,104,114,111,119] = false /\ eqS [105,102] [100,111] = false /\ eqS [109,97,116,99,104] [108,101,116] = false /\ eqS [109,97,116,99,104] [118,97,114] = false /\ eqS [109,97,116,99,104] [105,102] = false /\ eqS [109,97,116,99,104] [109,97,116,99,104] = true /\ eqS [109,97,116,99,104] [100,101,102,101,114] = false /\ eqS [109,97,116,99,104] [119,104,105,108,101] = false /\ eqS [109,97,116,99,104] [114,101,116,117,114,110] = false /\ eqS [109,97,116,99,104] [116,104,114,111,119] = false /\ eqS [109,97,116,99,104] [100,111] = false /\ eqS [100,101,102,101,114] [108,101,116] = false /\ eqS [100,101,102,101,114] [118,97,114] = false /\ eqS [100,101,102,101,114] [105,102] = false /\ eqS [100,101,102,101,114] [109,97,116,99,104] = false /\ eqS [100,101,102,101,114] [100,101,102,101,114] = true /\ eqS [100,101,102,101,114] [119,104,105,108,101] = false /\ eqS [100,101,102,101,114] [114,101,116,117,114,110] = false /\ eqS [100,101,102,101,114] [116,104,114,111,119] = false /\ eqS [100,101,102,101,114] [100,111] = false /\ eqS [119,104,105,108,101] [108,101,116] = false /\ eqS [119,104,105,108,101] [118,97,114] = false /\ eqS [119,104,105,108,101] [105,102] = false /\ eqS [119,104,105,108,101] [109,97,116,99,104] = false /\ eqS [119,104,105,108,101] [100,101,102,101,114] = false /\ eqS [119,104,105,108,101] [119,104,105,108,101] = true /\ eqS [119,104,105,108,101] [114,101,116,117,114,110] = false /\ eqS [119,104,105,108,101] [116,104,114,111,119] = false /\ eqS [119,104,105,108,101] [100,111] = false /\ eqS [114,101,116,117,114,110] [108,101,116] = false /\ eqS [114,101,116,117,114,110] [118,97,114] = false /\ eqS [114,101,116,117,114,110] [105,102] = false /\ eqS [114,101,116,117,114,110] [109,97,116,99,104] = false /\ eqS [114,101,116,117,114,110] [100,101,102,101,114] = false /\ eqS [114,101,116,117,114,110] [119,104,105,108,101] = false /\ eqS [114,101,116,117,114,110] [114,101,116,117,114,110] = true /\ eqS [114,101,116,117,114,110] [116,104,114,111,119] = false /\ eqS [114,101,116,117,114,110] [100,111] = false /\ eqS [116,104,114,111,119] [108,101,116] = false /\ eqS [116,104,114,111,119] [118,97,114] = false /\ eqS [116,104,114,111,119] [105,102] = false /\ eqS [116,104,114,111,119] [109,97,116,99,104] = false /\ eqS [116,104,114,111,119] [100,101,102,101,114] = false /\ eqS [116,104,114,111,119] [119,104,105,108,101] = false /\ eqS [116,104,114,111,119] [114,101,116,117,114,110] = false /\ eqS [116,104,114,111,119] [116,104,114,111,119] = true /\ eqS [116,104,114,111,119] [100,111] = false /\ eqS [100,111] [108,101,116] = false /\ eqS [100,111] [118,97,114] = false /\ eqS [100,111] [105,102] = false /\ eqS [100,111] [109,97,116,99,104] = false /\ eqS [100,111] [100,101,102,101,114] = false /\ eqS [100,111] [119,104,105,108,101] = false /\ eqS [100,111] [114,101,116,117,114,110] = false /\ eqS [100,111] [116,104,114,111,119] = false /\ eqS [100,111] [100,111] = true:=by simp [eqS]
theorem stmt_at {N n n' k:Nat} (hlo:lo <= k) (hN:24000 <= N) (hn:N + 17 <= n) (hn':N + 17 <= n') (hk:k <= l.length) (H:Hyp lo l size (k + 1) N) (E:∀ n n',N + 15 <= n -> N + 15 <= n' -> a2X lo l size k Nod.sz (GA l size k) ((j5.fs n).x9 l k size) ((l5.fs n').K8 l size k (-1))) :
    a2X lo l size k Nod.sz (fun x _=>G 1 x) ((j5.fs n).O0 l k size) ((l5.fs n').V7 l size k (-1)):=by
  have hl:=C.hl
  obtain ⟨n,rfl⟩:∃ q,n = q + 1:=⟨n - 1,by omega⟩
  obtain ⟨n',rfl⟩:∃ q,n' = q + 1:=⟨n' - 1,by omega⟩
  show a2X lo l size k Nod.sz (fun x _=>G 1 x) (J7 n (j5.fs n) l k size) (K9 n' (l5.fs n') l size k (-1))
  have word:∀ b,isK l 9 k = b -> ((u6 0 9 [] l k size).bind fun r4 =>
      cond r4 (
      (idx' l (k:Int)).bind fun x5 =>
      some x5.text) (
      some [])) = some (cond b (N9 l k) []):=by
    intro b hb
    rw [b3S C.hl hk size 9,hb]
    cases b
    · rfl
    · obtain ⟨_,t,t0,t1,_⟩:=kdt C hb
      simp only [Option.bind_some,cond_true,t0,t1]
  have fw:∀ w,isT l 9 w k = (isK l 9 k && eqS (N9 l k) w):=fun w=>b5t C 9 w k
  have dflt:∀ u:Str,isT l 9 [108,101,116] k = false -> isT l 9 [118,97,114] k = false -> isT l 9 [105,102] k = false -> isT l 9 [109,97,116,99,104] k = false -> isT l 9 [100,101,102,101,114] k = false -> isT l 9 [119,104,105,108,101] k = false -> isT l 9 [114,101,116,117,114,110] k = false -> isT l 9 [116,104,114,111,119] k = false -> isT l 9 [100,111] k = false -> eqS u [108,101,116] = false -> eqS u [118,97,114] = false -> eqS u [105,102] = false -> eqS u [109,97,116,99,104] = false -> eqS u [100,101,102,101,114] = false -> eqS u [119,104,105,108,101] = false -> eqS u [114,101,116,117,114,110] = false -> eqS u [116,104,114,111,119] = false -> eqS u [100,111] = false -> ((u6 0 9 [] l k size).bind fun r4 =>
      cond r4 (
      (idx' l (k:Int)).bind fun x5 =>
      some x5.text) (
      some [])) = some u -> a2X lo l size k Nod.sz (fun x _=>G 1 x) (J7 n (j5.fs n) l k size) (K9 n' (l5.fs n') l size k (-1)):=by
    intro u f0 f1 f2 f3 f4 f5 f6 f7 f8 g0 g1 g2 g3 g4 g5 g6 g7 g8 hu
    unfold J7 K9
    rw [hu]
    simp (disch:=omega) only [kyv C hk,nxv C hk,f0,f1,f2,f3,f4,f5,f6,f7,f8,g0,g1,g2,g3,g4,g5,g6,g7,g8,SSx C]
    obtain ⟨n1,rfl⟩:∃ q,n' = q + 1:=⟨n' - 1,by omega⟩
    have hsim:(l5.fs (n1 + 1)).a2V l size k (-1) = a3B n1 (l5.fs n1) l size k (-1):=rfl
    rw [hsim]
    unfold a3B
    rcases E n n1 (by omega) (by omega) with ⟨x,q,p1,p2,p3,p4,p5,p6⟩ | ⟨x,q,pl,f,p1,p2,p3,p4,p5⟩
    case inr =>
      simp (disch:=omega) only [p1,p2,SSx C]
      exact .inr ⟨_,q,pl,f,rfl,rfl,p3,p4,p5⟩
    have hx:=x.a2q
    simp (disch:=omega) only [p1,p2,SSx C]
    rcases sgx C p4 61 [] with ⟨b,hb,e1,e2,e3,e4,e5⟩ | ⟨b,e1,e2,e3,e4,e5⟩
    · simp (disch:=omega) only [e4,e5,e2,e3,SSx C]
      obtain ⟨pb,pb1,pb2⟩:=b9X p6.1 (n:=n) (n':=n1) (by omega) (by omega)
      rw [pb1,pb2]
      cases pb
      · simp (disch:=omega) only [SSx C]
        exact .inr ⟨_,q,x.at_,_,rfl,rfl,p3,p4,.inr ⟨p6.1.at,rfl,by obtain ⟨j,j1,j2,j3⟩:=p6.2; exact ⟨j,by omega,j2,j3⟩⟩⟩
      · simp (disch:=omega) only [e2,SSx C]
        rcases H.expr (q + 1) n n1 (by omega) hb (by omega) (by omega) with ⟨y,q2,r1,r2,r3,r4,r5,r6⟩ | ⟨y,q2,pl,f,r1,r2,r3,r4,r5⟩
        case inr =>
          simp (disch:=omega) only [r1,r2,SSx C]
          exact .inr ⟨_,q2,pl,f,rfl,rfl,by omega,r4,r5⟩
        simp (disch:=omega) only [r1,r2,b44 x y (show 144 <= 1000 by omega),SSx C]
        rcases sgx C r4 59 [] with ⟨b,hs,e1,e2,e3,e4,e5⟩ | ⟨b,e1,e2,e3,e4,e5⟩
        · simp (disch:=omega) only [e2,e3,SSx C]
          exact .inl ⟨_,q2 + 1,rfl,rfl,by omega,hs,by simp only [szs]; omega,.assign p6.1.at p6.1 r6.1⟩
        · simp (disch:=omega) only [e2,e3,SSx C]
          exact .inr ⟨_,q2,-1,_,rfl,rfl,by omega,r4,a0s lo l size q2⟩
    · simp (disch:=omega) only [e4,e5,SSx C]
      rcases sgx C p4 59 [] with ⟨b,hs,e1,e2,e3,e4,e5⟩ | ⟨b,e1,e2,e3,e4,e5⟩
      · simp (disch:=omega) only [e2,e3,SSx C]
        exact .inl ⟨_,q + 1,rfl,rfl,by omega,hs,by simp only [szs]; omega,.sole p6.1.at p6.1⟩
      · simp (disch:=omega) only [e2,e3,SSx C]
        exact .inr ⟨_,q,-1,_,rfl,rfl,by omega,p4,a0s lo l size q⟩
  cases hK:isK l 9 k
  · refine dflt [] (by rw [fw,hK]; rfl) (by rw [fw,hK]; rfl) (by rw [fw,hK]; rfl) (by rw [fw,hK]; rfl) (by rw [fw,hK]; rfl) (by rw [fw,hK]; rfl) (by rw [fw,hK]; rfl) (by rw [fw,hK]; rfl) (by rw [fw,hK]; rfl) (by simp [eqS]) (by simp [eqS]) (by simp [eqS]) (by simp [eqS]) (by simp [eqS]) (by simp [eqS]) (by simp [eqS]) (by simp [eqS]) (by simp [eqS]) (word _ hK)
  by_cases hw:N9 l k = [108,101,116]
  · have hu:=word _ hK
    rw [cond_true,hw] at hu
    have hT:isT l 9 [108,101,116] k = true:=by rw [fw,hK,hw]; exact a2F _
    have hb:k + 1 <= l.length:=a5u hT
    unfold J7 K9
    rw [hu]
    simp (disch:=omega) only [kyv C hk,nxv C hk,fw,hK,hw,Bool.true_and,wq,SSx C]
    rcases b7o C (n:=n) (n':=n') hN (by omega) (by omega) hk H (.inl hT) with ⟨x,q,p1,p2,p3,p4,p5,p6⟩ | ⟨x,q,pl,f,p1,p2,p3,p4,p5⟩
    · simp only [p1,p2,H6,Option.bind_some]
      exact .inl ⟨x,q,rfl,rfl,p3,p4,p5,p6⟩
    · simp only [p1,p2,N7,Option.bind_some]
      exact .inr ⟨x,q,pl,f,rfl,rfl,p3,p4,p5⟩
  have hw0:=hw
  clear hw
  by_cases hw:N9 l k = [118,97,114]
  · have hu:=word _ hK
    rw [cond_true,hw] at hu
    have hT:isT l 9 [118,97,114] k = true:=by rw [fw,hK,hw]; exact a2F _
    have hb:k + 1 <= l.length:=a5u hT
    unfold J7 K9
    rw [hu]
    simp (disch:=omega) only [kyv C hk,nxv C hk,fw,hK,hw,Bool.true_and,wq,SSx C]
    rcases b7o C (n:=n) (n':=n') hN (by omega) (by omega) hk H (.inr hT) with ⟨x,q,p1,p2,p3,p4,p5,p6⟩ | ⟨x,q,pl,f,p1,p2,p3,p4,p5⟩
    · simp only [p1,p2,H6,Option.bind_some]
      exact .inl ⟨x,q,rfl,rfl,p3,p4,p5,p6⟩
    · simp only [p1,p2,N7,Option.bind_some]
      exact .inr ⟨x,q,pl,f,rfl,rfl,p3,p4,p5⟩
  have hw1:=hw
  clear hw
  by_cases hw:N9 l k = [105,102]
  · have hu:=word _ hK
    rw [cond_true,hw] at hu
    have hT:isT l 9 [105,102] k = true:=by rw [fw,hK,hw]; exact a2F _
    have hb:k + 1 <= l.length:=a5u hT
    unfold J7 K9
    rw [hu]
    simp (disch:=omega) only [kyv C hk,nxv C hk,fw,hK,hw,Bool.true_and,wq,SSx C]
    rcases if_at C (n:=n) (n':=n') hN (by omega) (by omega) hk H hT with ⟨x,q,p1,p2,p3,p4,p5,p6⟩ | ⟨x,q,pl,f,p1,p2,p3,p4,p5⟩
    · simp only [p1,p2,H6,Option.bind_some]
      exact .inl ⟨x,q,rfl,rfl,p3,p4,p5,p6.1⟩
    · simp only [p1,p2,N7,Option.bind_some]
      exact .inr ⟨x,q,pl,f,rfl,rfl,p3,p4,p5⟩
  have hw2:=hw
  clear hw
  by_cases hw:N9 l k = [109,97,116,99,104]
  · have hu:=word _ hK
    rw [cond_true,hw] at hu
    have hT:isT l 9 [109,97,116,99,104] k = true:=by rw [fw,hK,hw]; exact a2F _
    have hb:k + 1 <= l.length:=a5u hT
    unfold J7 K9
    rw [hu]
    simp (disch:=omega) only [kyv C hk,nxv C hk,fw,hK,hw,Bool.true_and,wq,SSx C]
    rcases match_at C (n:=n) (n':=n') hN (by omega) (by omega) hk H hT with ⟨x,q,p1,p2,p3,p4,p5,p6⟩ | ⟨x,q,pl,f,p1,p2,p3,p4,p5⟩
    · rw [p2]
      simp only [p1,H6]
      exact .inl ⟨x,q,rfl,rfl,p3,p4,p5,p6⟩
    · rw [p2]
      simp only [p1,N7]
      exact .inr ⟨x,q,pl,f,rfl,rfl,p3,p4,p5⟩
  have hw3:=hw
  clear hw
  by_cases hw:N9 l k = [100,101,102,101,114]
  · have hu:=word _ hK
    rw [cond_true,hw] at hu
    have hT:isT l 9 [100,101,102,101,114] k = true:=by rw [fw,hK,hw]; exact a2F _
    have hb:k + 1 <= l.length:=a5u hT
    unfold J7 K9
    rw [hu]
    simp (disch:=omega) only [kyv C hk,nxv C hk,fw,hK,hw,Bool.true_and,wq,SSx C]
    obtain ⟨n1,rfl⟩:∃ q,n = q + 1:=⟨n - 1,by omega⟩
    have hone:∀ op:Int,(j5.fs (n1 + 1)).V3 op l k size = a00 n1 (j5.fs n1) op l k size:=fun _=>rfl
    simp only [hone,a00,a3I C hk,Option.bind_some,X3 (show k <= 1000000 by omega)]
    rcases H.block (k + 1) n1 n' (Nat.le_refl _) hb (by omega) (by omega) with ⟨x,q,p1,p2,p3,p4,p5,p6⟩ | ⟨x,q,pl,f,p1,p2,p3,p4,p5⟩
    · simp only [p1,p2,H6,Option.bind_some]
      exact .inl ⟨_,q,rfl,rfl,by omega,p4,by simp only [szs]; omega,.defer (C.pos k) p6⟩
    · simp only [p1,p2,N7,Option.bind_some]
      exact .inr ⟨_,q,pl,f,rfl,rfl,by omega,p4,p5⟩
  have hw4:=hw
  clear hw
  by_cases hw:N9 l k = [119,104,105,108,101]
  · have hu:=word _ hK
    rw [cond_true,hw] at hu
    have hT:isT l 9 [119,104,105,108,101] k = true:=by rw [fw,hK,hw]; exact a2F _
    have hb:k + 1 <= l.length:=a5u hT
    unfold J7 K9
    rw [hu]
    simp (disch:=omega) only [kyv C hk,nxv C hk,fw,hK,hw,Bool.true_and,wq,SSx C]
    rcases H.expr (k + 1) n n' (Nat.le_refl _) hb (by omega) (by omega) with ⟨x,q,p1,p2,p3,p4,p5,p6⟩ | ⟨x,q,pl,f,p1,p2,p3,p4,p5⟩
    case inr =>
      simp (disch:=omega) only [p1,p2,SSx C]
      exact .inr ⟨_,q,pl,f,rfl,rfl,by omega,p4,p5⟩
    have hx:=x.a2q
    simp (disch:=omega) only [p1,p2,SSx C]
    rcases H.block q n n' (by omega) p4 (by omega) (by omega) with ⟨y,q2,r1,r2,r3,r4,r5,r6⟩ | ⟨y,q2,pl,f,r1,r2,r3,r4,r5⟩
    · simp (disch:=omega) only [r1,r2,b44 x y (show 144 <= 1000 by omega),SSx C]
      exact .inl ⟨_,q2,rfl,rfl,by omega,r4,by simp only [szs]; omega,.whil (C.pos k) p6.1 r6⟩
    · simp (disch:=omega) only [r1,r2,SSx C]
      exact .inr ⟨_,q2,pl,f,rfl,rfl,by omega,r4,r5⟩
  have hw5:=hw
  clear hw
  by_cases hw:N9 l k = [114,101,116,117,114,110]
  · have hu:=word _ hK
    rw [cond_true,hw] at hu
    have hT:isT l 9 [114,101,116,117,114,110] k = true:=by rw [fw,hK,hw]; exact a2F _
    have hb:k + 1 <= l.length:=a5u hT
    unfold J7 K9
    rw [hu]
    simp (disch:=omega) only [kyv C hk,nxv C hk,fw,hK,hw,Bool.true_and,wq,SSx C]
    rcases sgx C hb 59 [] with ⟨b,hs,e1,e2,e3,e4,e5⟩ | ⟨b,e1,e2,e3,e4,e5⟩
    · simp (disch:=omega) only [e1,e2,SSx C]
      exact .inl ⟨_,k + 1 + 1,rfl,rfl,by omega,hs,by simp only [szs]; omega,.ret0 (C.pos k)⟩
    simp (disch:=omega) only [e1,e2,SSx C]
    rcases H.expr (k + 1) n n' (Nat.le_refl _) hb (by omega) (by omega) with ⟨x,q,p1,p2,p3,p4,p5,p6⟩ | ⟨x,q,pl,f,p1,p2,p3,p4,p5⟩
    case inr =>
      simp (disch:=omega) only [p1,p2,SSx C]
      exact .inr ⟨_,q,pl,f,rfl,rfl,by omega,p4,p5⟩
    simp (disch:=omega) only [p1,p2,SSx C]
    rcases sgx C p4 59 [] with ⟨b,hs,e1,e2,e3,e4,e5⟩ | ⟨b,e1,e2,e3,e4,e5⟩
    · simp (disch:=omega) only [e2,e3,SSx C]
      exact .inl ⟨_,q + 1,rfl,rfl,by omega,hs,by simp only [szs]; omega,.ret1 (C.pos k) p6.1⟩
    · simp (disch:=omega) only [e2,e3,SSx C]
      exact .inr ⟨_,q,-1,_,rfl,rfl,by omega,p4,a0s lo l size q⟩
  have hw6:=hw
  clear hw
  by_cases hw:N9 l k = [116,104,114,111,119]
  · have hu:=word _ hK
    rw [cond_true,hw] at hu
    have hT:isT l 9 [116,104,114,111,119] k = true:=by rw [fw,hK,hw]; exact a2F _
    have hb:k + 1 <= l.length:=a5u hT
    unfold J7 K9
    rw [hu]
    simp (disch:=omega) only [kyv C hk,nxv C hk,fw,hK,hw,Bool.true_and,wq,SSx C]
    rcases H.expr (k + 1) n n' (Nat.le_refl _) hb (by omega) (by omega) with ⟨x,q,p1,p2,p3,p4,p5,p6⟩ | ⟨x,q,pl,f,p1,p2,p3,p4,p5⟩
    case inr =>
      simp (disch:=omega) only [p1,p2,SSx C]
      exact .inr ⟨_,q,pl,f,rfl,rfl,by omega,p4,p5⟩
    simp (disch:=omega) only [p1,p2,SSx C]
    rcases sgx C p4 59 [] with ⟨b,hs,e1,e2,e3,e4,e5⟩ | ⟨b,e1,e2,e3,e4,e5⟩
    · simp (disch:=omega) only [e2,e3,SSx C]
      exact .inl ⟨_,q + 1,rfl,rfl,by omega,hs,by simp only [szs]; omega,.throws (C.pos k) p6.1⟩
    · simp (disch:=omega) only [e2,e3,SSx C]
      exact .inr ⟨_,q,-1,_,rfl,rfl,by omega,p4,a0s lo l size q⟩
  have hw7:=hw
  clear hw
  by_cases hw:N9 l k = [100,111]
  · have hu:=word _ hK
    rw [cond_true,hw] at hu
    have hT:isT l 9 [100,111] k = true:=by rw [fw,hK,hw]; exact a2F _
    have hb:k + 1 <= l.length:=a5u hT
    unfold J7 K9
    rw [hu]
    simp (disch:=omega) only [kyv C hk,nxv C hk,fw,hK,hw,Bool.true_and,wq,SSx C]
    obtain ⟨n1,rfl⟩:∃ q,n = q + 1:=⟨n - 1,by omega⟩
    have hone:∀ op:Int,(j5.fs (n1 + 1)).V3 op l k size = a00 n1 (j5.fs n1) op l k size:=fun _=>rfl
    simp only [hone,a00,a3I C hk,Option.bind_some,X3 (show k <= 1000000 by omega)]
    rcases H.block (k + 1) n1 n' (Nat.le_refl _) hb (by omega) (by omega) with ⟨x,q,p1,p2,p3,p4,p5,p6⟩ | ⟨x,q,pl,f,p1,p2,p3,p4,p5⟩
    case inr =>
      simp (disch:=omega) only [p1,p2,SSx C]
      exact .inr ⟨_,q,pl,f,rfl,rfl,by omega,p4,p5⟩
    have hx:=x.a2q
    simp (disch:=omega) only [p1,p2,SSx C]
    rcases kyx C p4 99 [97,116,99,104] with ⟨b,hs,e1,e2,e3,e4,e5⟩ | ⟨b,e1,e2,e3,e4,e5⟩
    case inr =>
      simp (disch:=omega) only [e2,e3,SSx C]
      exact .inr ⟨_,q,-1,_,rfl,rfl,by omega,p4,a0s lo l size q⟩
    simp (disch:=omega) only [e2,e3,SSx C]
    rcases nmx C hs with ⟨c,hc,e1,e2,e3⟩ | ⟨c,e1,e2,e3⟩
    case inr =>
      simp (disch:=omega) only [e1,e2,SSx C]
      exact .inr ⟨_,q + 1,-1,_,rfl,rfl,by omega,hs,a0s lo l size (q + 1)⟩
    simp (disch:=omega) only [e1,e2,SSx C]
    rcases H.block (q + 1 + 1) (n1 + 1) n' (by omega) hc (by omega) (by omega) with ⟨y,q2,r1,r2,r3,r4,r5,r6⟩ | ⟨y,q2,pl,f,r1,r2,r3,r4,r5⟩
    · simp (disch:=omega) only [r1,r2,b44 x y (show 144 <= 1000 by omega),SSx C]
      exact .inl ⟨_,q2,rfl,rfl,by omega,r4,by simp only [szs]; omega,.doc (C.pos k) p6 r6⟩
    · simp (disch:=omega) only [r1,r2,SSx C]
      exact .inr ⟨_,q2,pl,f,rfl,rfl,by omega,r4,r5⟩
  have hw8:=hw
  clear hw
  exact dflt (N9 l k) (by rw [fw,hK]; simp [eqS,hw0]) (by rw [fw,hK]; simp [eqS,hw1]) (by rw [fw,hK]; simp [eqS,hw2]) (by rw [fw,hK]; simp [eqS,hw3]) (by rw [fw,hK]; simp [eqS,hw4]) (by rw [fw,hK]; simp [eqS,hw5]) (by rw [fw,hK]; simp [eqS,hw6]) (by rw [fw,hK]; simp [eqS,hw7]) (by rw [fw,hK]; simp [eqS,hw8]) (by simp [eqS,hw0]) (by simp [eqS,hw1]) (by simp [eqS,hw2]) (by simp [eqS,hw3]) (by simp [eqS,hw4]) (by simp [eqS,hw5]) (by simp [eqS,hw6]) (by simp [eqS,hw7]) (by simp [eqS,hw8]) (word _ hK)
theorem b4I {N M n n' k0:Nat} (hN:24000 <= N) (hn:M <= n) (hn':M <= n') (hM:N <= M) (Q:∀ k n n',k0 <= k -> k <= l.length -> M <= n -> M <= n' -> a2X lo l size k Nod.sz (fun x _=>G 1 x) ((j5.fs n).O0 l k size) ((l5.fs n').V7 l size k (-1))):∀ (m m' k:Nat) (xs:List Nod),k0 <= k -> k <= l.length -> l.length - k < m -> l.length - k < m' -> szN xs + 4 * k0 <= 4 * k -> (∀ x ∈ xs,G 1 x) ->
  (∃ (q:Nat) (ys:List Nod),T9 n (j5.fs n) size l m xs k = some (.brk (ys,(q:Int))) /\ a0B n' (l5.fs n') size l m' xs k (-1) = some (.brk (ys,(q:Int),-1)) /\ k <= q /\ q <= l.length /\ szN ys + 4 * k0 + 4 <= 4 * q /\ ∀ x ∈ ys,G 1 x) ∨
  (∃ (q:Nat) (y:List Nod) (pl:Int) (f:o5),T9 n (j5.fs n) size l m xs k = some (.out (.pan (f,(q:Int)))) /\ a0B n' (l5.fs n') size l m' xs k (-1) = some (.out (y,false,(q:Int),pl)) /\ k <= q /\ q <= l.length /\ a4h lo l size q pl f)
 | 0,m',k,xs,h1,h2,h3,h4,h5,h6=>by omega
 | m + 1,0,k,xs,h1,h2,h3,h4,h5,h6=>by omega
 | m + 1,m' + 1,k,xs,h1,h2,h3,h4,h5,h6=>by
  have hl:=C.hl
  have hlen:=X7 xs
  rw [T9.eq_2,a0B.eq_2]
  rcases sgx C h2 125 [] with ⟨b,hb,e1,e2,e3,e4,e5⟩ | ⟨b,e1,e2,e3,e4,e5⟩
  ·rw [e1,e2]
   exact .inl ⟨k + 1,xs,rfl,rfl,by omega,hb,by omega,h6⟩
  ·rw [e1,e2]
   simp only [Option.bind_some,Bool.not_false,cond_true]
   rcases Q k n n' h1 h2 hn hn' with ⟨x,q,p1,p2,p3,p4,p5,p6⟩ | ⟨x,q,pl,f,p1,p2,p3,p4,p5⟩
   ·have a1:app 144 xs [x] = some (xs ++ [x]):=a1s (by omega) (by simp) (by omega)
    have hx:=x.a2q
    simp only [p1,p2,a1,H6,Option.bind_some,Bool.not_true,cond_false]
    rcases b4I hN hn hn' hM Q m m' q (xs ++ [x]) (by omega) p4 (by omega) (by omega) (by simp only [szs]; omega) (a4X h6 (a4i p6)) with ⟨q',ys,y1,y2,y3,y4,y5,y6⟩ | ⟨q',y,pl,f,y1,y2,y3,y4,y5⟩
    ·exact .inl ⟨q',ys,y1,y2,by omega,y4,y5,y6⟩
    ·exact .inr ⟨q',y,pl,f,y1,y2,by omega,y4,y5⟩
   ·simp only [p1,p2,N7,Option.bind_some,Bool.not_false,cond_true]
    exact .inr ⟨q,_,pl,f,rfl,rfl,by omega,p4,p5⟩
theorem stmts_at {N M n n' k:Nat} (hN:24000 <= N) (hn:M + 1 <= n) (hn':M + 1 <= n') (hM:N <= M) (hk:k <= l.length) (Q:∀ q n n',k <= q -> q <= l.length -> M <= n -> M <= n' -> a2X lo l size q Nod.sz (fun x _=>G 1 x) ((j5.fs n).O0 l q size) ((l5.fs n').V7 l size q (-1))) :
  a2X lo l size k (fun x=>szN x + 4) (fun x _=>∀ y ∈ x,G 1 y) ((j5.fs n).M7 l k size) ((l5.fs n').a0v l size k (-1)):=by
 have hl:=C.hl
 obtain ⟨n,rfl⟩:∃ q,n = q + 1:=⟨n - 1,by omega⟩
 obtain ⟨n',rfl⟩:∃ q,n' = q + 1:=⟨n' - 1,by omega⟩
 show a2X lo l size k _ _ (a0I n (j5.fs n) l k size) (a2y n' (l5.fs n') l size k (-1))
 unfold a0I a2y
 rcases b4I C (n:=n) (n':=n') (k0:=k) hN (by omega) (by omega) hM Q n n' k [] (Nat.le_refl _) hk (by omega) (by omega) (by simp only [szs]; omega) all_nil with ⟨q',ys,y1,y2,y3,y4,y5,y6⟩ | ⟨q',y,pl,f,y1,y2,y3,y4,y5⟩
 ·rw [y1,y2]
  exact .inl ⟨ys,q',rfl,rfl,y3,y4,(by show szN ys + 4 + 4 * k <= 4 * q'; omega),y6⟩
 ·rw [y1,y2]
  exact .inr ⟨_,q',pl,f,rfl,rfl,y3,y4,y5⟩
theorem hyp_step {N k:Nat} (hlo:lo <= k) (hN:24000 <= N) (H:Hyp lo l size (k + 1) N):Hyp lo l size k (N + 20):=by
 have U:∀ n n',k <= l.length -> N + 4 <= n -> N + 4 <= n' -> a2X lo l size k Nod.sz (GA l size k) ((j5.fs n).I6 l k size) ((l5.fs n').Q8 l size k (-1)):=fun n n' hk h1 h2=>unary_at C hN h1 h2 hk H
 have L:∀ j n n',k <= l.length -> j <= 5 -> N + 5 <= n -> N + 10 <= n' -> b6M lo l size j k n n':=fun j n n' hk hj h1 h2=>lev_at C hN (by omega) h2 hk H hj fun n' h3=>U n n' hk (by omega) h3
 have E:∀ n n',k <= l.length -> N + 15 <= n -> N + 15 <= n' -> a2X lo l size k Nod.sz (GA l size k) ((j5.fs n).x9 l k size) ((l5.fs n').K8 l size k (-1)):=fun n n' hk h1 h2=>expr_at C (N:=N + 4) (by omega) (by omega) fun n n' h3 h4=>L 0 n n' hk (by omega) (by omega) (by omega)
 have Q:∀ n n',k <= l.length -> N + 17 <= n -> N + 17 <= n' -> a2X lo l size k Nod.sz (fun x _=>G 1 x) ((j5.fs n).O0 l k size) ((l5.fs n').V7 l size k (-1)):=fun n n' hk h1 h2=>stmt_at C hlo hN h1 h2 hk H fun n n'=>E n n' hk
 have cut:∀ {q:Nat},k <= q -> q = k ∨ k + 1 <= q:=fun h=>by omega
 refine ⟨fun q n n' h hk h1 h2=>?_,fun q n n' h hk h1 h2=>?_,fun j q n n' hj h hk h1 h2=>?_,fun m0 q n n' hm h hk h1 h2=>?_,fun q n n' h hk h1 h2=>?_,fun q n n' h hk h1 h2=>?_,fun q n n' h hk h1 h2=>?_,fun q n n' hi h hk h1 h2=>?_⟩
 ·rcases cut h with rfl | h
  ·exact E n n' hk (by omega) (by omega)
  ·exact H.expr q n n' h hk (by omega) (by omega)
 ·rcases cut h with rfl | h
  ·exact U n n' hk (by omega) (by omega)
  ·exact H.unary q n n' h hk (by omega) (by omega)
 ·rcases cut h with rfl | h
  ·exact L j n n' hk hj (by omega) (by omega)
  ·exact H.lev j q n n' hj h hk (by omega) (by omega)
 ·rcases cut h with rfl | h
  ·exact args_at C hN (by omega) (by omega) hk H hm
  ·exact H.args m0 q n n' hm h hk (by omega) (by omega)
 ·rcases cut h with rfl | h
  ·refine stmts_at C (M:=N + 17) hN (by omega) (by omega) (by omega) hk fun r n n' g gk g1 g2=>?_
   rcases cut g with rfl | g
   ·exact Q n n' gk g1 g2
   ·exact H.stmt r n n' g gk (by omega) (by omega)
  ·exact H.stmts q n n' h hk (by omega) (by omega)
 ·rcases cut h with rfl | h
  ·exact Q n n' hk (by omega) (by omega)
  ·exact H.stmt q n n' h hk (by omega) (by omega)
 ·rcases cut h with rfl | h
  ·exact block_at C hN (by omega) (by omega) hk H
  ·exact H.block q n n' h hk (by omega) (by omega)
 ·rcases cut h with rfl | h
  ·exact if_at C hN (by omega) (by omega) hk H hi
  ·exact H.iff q n n' hi h hk (by omega) (by omega)
theorem b88:∀ (R k:Nat),lo <= k -> l.length < k + R -> Hyp lo l size k (24000 + 20 * R)
 | 0,k,hlo,h=>⟨fun q n n' h1 hk=>by omega,fun q n n' h1 hk=>by omega,fun j q n n' hj h1 hk=>by omega,fun m0 q n n' hm h1 hk=>by omega,fun q n n' h1 hk=>by omega,fun q n n' h1 hk=>by omega,fun q n n' h1 hk=>by omega,fun q n n' hi h1 hk=>by omega⟩
 | R + 1,k,hlo,h=>by
  have:=hyp_step C (N:=24000 + 20 * R) hlo (by omega) (b88 R (k + 1) (by omega) (by omega))
  exact this
theorem hyp0:Hyp lo l size lo 90000:=by
 have hl:=C.hl
 have H:=b88 C (lo:=lo) 3001 lo (Nat.le_refl _) (by omega)
 exact ⟨fun k n n' h hk h1 h2=>H.expr k n n' h hk (by omega) (by omega),fun k n n' h hk h1 h2=>H.unary k n n' h hk (by omega) (by omega),fun j k n n' hj h hk h1 h2=>H.lev j k n n' hj h hk (by omega) (by omega),fun m0 k n n' hm h hk h1 h2=>H.args m0 k n n' hm h hk (by omega) (by omega),fun k n n' h hk h1 h2=>H.stmts k n n' h hk (by omega) (by omega),fun k n n' h hk h1 h2=>H.stmt k n n' h hk (by omega) (by omega),fun k n n' h hk h1 h2=>H.block k n n' h hk (by omega) (by omega),fun k n n' hi h hk h1 h2=>H.iff k n n' hi h hk (by omega) (by omega)⟩
end
end Go.Proofs.YtmhiojdkjokccaaGreatDoor
namespace Go.Proofs.YtmhiojdkjokccaaGreatDoor
open Go Go.Vm
def OkS {α:Type} (l:List Tok) (size:Int) (k:Nat) (sz:α -> Nat) (Q:α -> Prop) (p:Option (Rs (α × Int) (Int × Int))):Prop :=
 (∃ (x:α) (q:Nat),p = some (.ok (x,(q:Int))) /\ k <= q /\ q <= l.length /\ sz x + 4 * k <= 4 * q /\ Q x) ∨
 (∃ q:Nat,p = some (.pan (H7 l size q,(q:Int))) /\ k <= q /\ q <= l.length)
def b3u (l:List Tok) (size:Int) (k q:Nat) (f:o5):Prop:=f = ⟨⟨20,H7 l size q⟩⟩ ∨ ∃ j:Nat,k <= j /\ j <= q /\ f = ⟨⟨22,H7 l size j⟩⟩
theorem b3u.up {l:List Tok} {size:Int} {k k' q:Nat} {f:o5} (h:b3u l size k q f) (h1:k' <= k):b3u l size k' q f:=by
 rcases h with h | ⟨j,a,b,c⟩
 ·exact .inl h
 ·exact .inr ⟨j,by omega,b,c⟩
def OkN {α:Type} (l:List Tok) (size:Int) (k:Nat) (sz:α -> Nat) (Q:α -> Prop) (p:Option (Rs (α × Int) (o5 × Int))):Prop :=
 (∃ (x:α) (q:Nat),p = some (.ok (x,(q:Int))) /\ k <= q /\ q <= l.length /\ sz x + 4 * k <= 4 * q /\ Q x) ∨
 (∃ (q:Nat) (f:o5),p = some (.pan (f,(q:Int))) /\ k <= q /\ q <= l.length /\ b3u l size k q f)
section
variable {l:List Tok} {size:Int} (C:Cx l size)
include C
theorem capx {k:Nat} (hk:k <= l.length):(k + 1 <= l.length /\ G9 l k size = some (.ok (N9 l k))) ∨ G9 l k size = some (.pan (H7 l size k)):=by
 rcases cap C.hl hk size (-1) with ⟨h,e,_,_⟩ | ⟨e,_⟩
 ·exact .inl ⟨h,e⟩
 ·exact .inr e
theorem typo {n k:Nat} (hk:k <= l.length) (hn:20000 <= n):(∃ (t:Typ) (q:Nat),D6 n l k size = some (.ok (t,(q:Int))) /\ k < q /\ q <= l.length /\ t.sz + k <= q) ∨ (∃ q:Nat,D6 n l k size = some (.pan (H7 l size q,(q:Int))) /\ k <= q /\ q <= l.length):=by
 rcases typ4 C (n:=n) (n':=20000) hk hn (Nat.le_refl _) with ⟨t,q,p1,_,p3,p4,p5⟩ | ⟨t,q,p1,_,p3,p4⟩
 ·exact .inl ⟨t,q,p1,p3,p4,p5⟩
 ·exact .inr ⟨q,p1,p3,p4⟩
theorem blocko {n k:Nat} (hk:k <= l.length) (hn:90000 <= n):OkN l size k Nod.sz (fun _=>True) (F8 n l k size):=by
 rcases (hyp0 C (lo:=k)).block k n n (Nat.le_refl _) hk hn hn with ⟨x,q,p1,_,p3,p4,p5,_⟩ | ⟨x,q,pl,f,p1,_,p3,p4,p5⟩
 ·exact .inl ⟨x,q,p1,p3,p4,p5,trivial⟩
 ·refine .inr ⟨q,f,p1,p3,p4,?_⟩
  rcases p5 with ⟨_,h⟩ | ⟨h0,h,j,j1,j2,j3⟩
  ·exact .inl h
  ·exact .inr ⟨j,j1,j2,by rw [h,j3]⟩
theorem resulto {n k:Nat} (hk:k <= l.length) (hn:20000 <= n):(∃ (t:Typ) (q:Nat),U5 n l k size = some (.ok (t,(q:Int))) /\ k <= q /\ q <= l.length /\ t.sz + k <= q + 1) ∨ (∃ q:Nat,U5 n l k size = some (.pan (H7 l size q,(q:Int))) /\ k <= q /\ q <= l.length):=by
 unfold U5
 rcases sgx C hk 45 [62] with ⟨b,hb,e1,e2,e3,e4,e5⟩ | ⟨b,e1,e2,e3,e4,e5⟩
 ·simp (disch:=omega) only [e1,SSx C]
  rcases typo C hb hn with ⟨t,q,p1,p3,p4,p5⟩ | ⟨q,p1,p3,p4⟩
  ·simp (disch:=omega) only [p1,SSx C]
   exact .inl ⟨t,q,rfl,by omega,p4,by omega⟩
  ·simp (disch:=omega) only [p1,SSx C]
   exact .inr ⟨q,rfl,by omega,p4⟩
 ·simp (disch:=omega) only [e1,SSx C]
  exact .inl ⟨_,k,rfl,Nat.le_refl _,hk,by simp only [szs]; omega⟩
theorem paramso {n k:Nat} (hk:k <= l.length) (hn:20000 <= n):OkS l size k szN (fun _=>True) (X6 n l k size):=by
 rcases b4j C (m0:=[]) (n:=n) (n':=20000) hk hn (Nat.le_refl _) (by simp) with ⟨q,ys,p1,_,_,p4,p5,p6,_⟩ | ⟨q,ys,p1,_,_,p4,p5⟩ | ⟨p1,_⟩
 ·exact .inl ⟨ys,q,p1,by omega,p5,by omega,trivial⟩
 ·exact .inr ⟨q,p1,p4,p5⟩
 ·exact .inr ⟨k,p1,Nat.le_refl _,hk⟩
theorem b2t {n k0:Nat}:∀ (m k:Nat) (xs:List Nod),k0 <= k -> k <= l.length -> l.length - k < m -> szN xs + 4 * k0 <= 4 * k -> OkS l size k0 szN (fun _=>True) (a0D n size l m xs k)
 | 0,k,xs,h1,h2,h3,h4=>by omega
 | m + 1,k,xs,h1,h2,h3,h4=>by
  have hl:=C.hl
  have hlen:=X7 xs
  rw [a0D.eq_2]
  rcases capx C h2 with ⟨hc,e⟩ | e
  ·have a1:app 144 xs [(⟨9,N9 l k,0,zT,[],[],H7 l size k⟩:Nod)] = some (xs ++ [(⟨9,N9 l k,0,zT,[],[],H7 l size k⟩:Nod)]):=a1s (by omega) (by simp) (by omega)
   simp (disch:=omega) only [e,a1,SSx C]
   rcases sgx C hc 38 [] with ⟨b,hb,e1,e2,e3,e4,e5⟩ | ⟨b,e1,e2,e3,e4,e5⟩
   ·simp (disch:=omega) only [e1,SSx C]
    exact b2t m (k + 1 + 1) _ (by omega) hb (by omega) (by simp only [szs]; omega)
   ·simp (disch:=omega) only [e1,SSx C]
    exact .inl ⟨_,k + 1,rfl,by omega,hc,by simp only [szs]; omega,trivial⟩
  ·simp (disch:=omega) only [e,SSx C]
   exact .inr ⟨k,rfl,h1,h2⟩
theorem b8U {n k:Nat} (hk:k <= l.length) (hn:20000 <= n):OkS l size k szN (fun _=>True) (a1j n l k size):=by
 have hl:=C.hl
 unfold a1j
 rcases sgx C hk 58 [] with ⟨b,hb,e1,e2,e3,e4,e5⟩ | ⟨b,e1,e2,e3,e4,e5⟩
 ·simp (disch:=omega) only [e1,SSx C]
  exact b2t C n (k + 1) [] (by omega) hb (by omega) (by simp only [szs]; omega)
 ·simp (disch:=omega) only [e1,SSx C]
  exact .inl ⟨_,k,rfl,Nat.le_refl _,hk,by simp only [szs]; omega,trivial⟩
theorem b4S {n k0:Nat} (hn:20000 <= n):∀ (m k:Nat) (xs:List Nod),k0 <= k -> k <= l.length -> l.length - k < m -> szN xs + 4 * k0 <= 4 * k -> OkS l size k0 szN (fun _=>True) (a0q n size l m xs k)
 | 0,k,xs,h1,h2,h3,h4=>by omega
 | m + 1,k,xs,h1,h2,h3,h4=>by
  have hl:=C.hl
  have hlen:=X7 xs
  rw [a0q.eq_2]
  rcases typo C h2 hn with ⟨t,q,p1,p3,p4,p5⟩ | ⟨q,p1,p3,p4⟩
  case inr =>
   simp (disch:=omega) only [p1,SSx C]
   exact .inr ⟨q,rfl,by omega,p4⟩
  have fin:∀ (r:Nat) (s:Str) (nn:Int) (ts:List Typ),q + 1 <= r -> r <= l.length -> szT ts + q + 1 <= r + 1 -> OkS l size k0 szN (fun _=>True) ((app 144 xs ([(⟨12,s,nn,t,ts,[],H7 l size k⟩:Nod)]:List Nod)).bind fun l20 =>
   (w9 [44] l (r:Int) size).bind fun (r21,at22) =>
   cond (!r21) (
   some (.ok (l20,at22))) (
   a0q n size l m l20 at22)):=by
   intro r s nn ts g1 g2 g3
   rw [a1s (by omega) (by simp) (by omega)]
   rcases sgx C g2 44 [] with ⟨b,hb,e1,e2,e3,e4,e5⟩ | ⟨b,e1,e2,e3,e4,e5⟩
   ·simp (disch:=omega) only [e1,SSx C]
    exact b4S hn m (r + 1) _ (by omega) hb (by omega) (by simp only [szs]; omega)
   ·simp (disch:=omega) only [e1,SSx C]
    exact .inl ⟨_,r,rfl,by omega,g2,by simp only [szs]; omega,trivial⟩
  rw [a3I C h2,Option.bind_some,p1,H6]
  simp only
  rcases sgx C p4 61 [61] with ⟨b,hb,e1,e2,e3,e4,e5⟩ | ⟨b,e1,e2,e3,e4,e5⟩
  ·rw [e1]
   simp only [Option.bind_some,cond_true]
   rcases typo C hb hn with ⟨t2,r,r1,r3,r4,r5⟩ | ⟨r,r1,r3,r4⟩
   ·simp only [r1,H6,U3]
    exact fin r [] 2 [t2] (by omega) r4 (by simp only [szs,szT_cons]; omega)
   ·simp only [r1,N7,W9]
    exact .inr ⟨r,rfl,by omega,r4⟩
  ·rw [e1]
   simp only [Option.bind_some,cond_false]
   rcases sgx C p4 58 [] with ⟨b,hb,e1,e2,e3,e4,e5⟩ | ⟨b,e1,e2,e3,e4,e5⟩
   ·rw [e3]
    simp only [H6]
    rcases capx C hb with ⟨hc,e⟩ | e
    ·rw [e]
     simp only [H6,U3]
     rw [X3 (by omega)]
     exact fin (q + 1 + 1) (N9 l (q + 1)) 1 [] (by omega) hc (by simp only [szs]; omega)
    ·rw [e]
     simp only [N7,W9]
     exact .inr ⟨q + 1,rfl,by omega,hb⟩
   ·rw [e3]
    simp only [N7,W9]
    exact .inr ⟨q,rfl,by omega,p4⟩
theorem whereo {n k:Nat} (hk:k <= l.length) (hn:20000 <= n):OkS l size k szN (fun _=>True) (a1D n l k size):=by
 have hl:=C.hl
 unfold a1D
 rcases kyx C (k:=k) (by omega) 119 [104,101,114,101] with ⟨b,hb,e1,e2,e3,e4,e5⟩ | ⟨b,e1,e2,e3,e4,e5⟩
 ·simp (disch:=omega) only [e1,SSx C]
  exact b4S C hn n (k + 1) [] (by omega) hb (by omega) (by simp only [szs]; omega)
 ·simp (disch:=omega) only [e1,SSx C]
  exact .inl ⟨_,k,rfl,Nat.le_refl _,hk,by simp only [szs]; omega,trivial⟩
theorem b0v {n k0:Nat} (hn:20000 <= n):∀ (m k:Nat) (xs:List Nod),k0 <= k -> k <= l.length -> l.length - k < m -> szN xs + 4 * k0 <= 4 * k ->
  (∃ (ys:List Nod) (q:Nat),V8 n size l m xs k = some (.brk (ys,(q:Int))) /\ k0 <= q /\ q <= l.length /\ szN ys + 4 * k0 <= 4 * q) ∨
  (∃ q:Nat,V8 n size l m xs k = some (.out (.pan (H7 l size q,(q:Int)))) /\ k0 <= q /\ q <= l.length)
 | 0,k,xs,h1,h2,h3,h4=>by omega
 | m + 1,k,xs,h1,h2,h3,h4=>by
  have hl:=C.hl
  have hlen:=X7 xs
  rw [V8.eq_2]
  rcases capx C h2 with ⟨hc,e⟩ | e
  ·simp (disch:=omega) only [e,SSx C]
   rcases b8U C (n:=n) hc hn with ⟨bs,q,p1,p3,p4,p5,_⟩ | ⟨q,p1,p3,p4⟩
   ·have a1:app 144 xs [(⟨8,N9 l k,0,zT,[],bs,H7 l size k⟩:Nod)] = some (xs ++ [(⟨8,N9 l k,0,zT,[],bs,H7 l size k⟩:Nod)]):=a1s (by omega) (by simp) (by omega)
    simp (disch:=omega) only [p1,a1,SSx C]
    rcases sgx C p4 44 [] with ⟨b,hb,e1,e2,e3,e4,e5⟩ | ⟨b,e1,e2,e3,e4,e5⟩
    ·simp (disch:=omega) only [e1,SSx C]
     exact b0v hn m (q + 1) _ (by omega) hb (by omega) (by simp only [szs]; omega)
    ·simp (disch:=omega) only [e1,SSx C]
     exact .inl ⟨_,q,rfl,by omega,p4,by simp only [szs]; omega⟩
   ·simp (disch:=omega) only [p1,SSx C]
    exact .inr ⟨q,rfl,by omega,p4⟩
  ·simp (disch:=omega) only [e,SSx C]
   exact .inr ⟨k,rfl,h1,h2⟩
theorem b1V {n k:Nat} (hk:k <= l.length) (hn:20000 <= n):OkS l size k szN (fun _=>True) (P8 n l k size):=by
 have hl:=C.hl
 unfold P8
 rcases sgx C hk 60 [] with ⟨b,hb,e1,e2,e3,e4,e5⟩ | ⟨b,e1,e2,e3,e4,e5⟩
 ·simp (disch:=omega) only [e1,SSx C]
  rcases b0v C (k0:=k) hn n (k + 1) [] (by omega) hb (by omega) (by simp only [szs]; omega) with ⟨ys,r,y1,y2,y3,y4⟩ | ⟨r,y1,y2,y3⟩
  ·simp (disch:=omega) only [y1,SSx C]
   rcases sgx C y3 62 [] with ⟨b,hb,e1,e2,e3,e4,e5⟩ | ⟨b,e1,e2,e3,e4,e5⟩
   ·simp (disch:=omega) only [e3,SSx C]
    exact .inl ⟨_,r + 1,rfl,by omega,hb,by omega,trivial⟩
   ·simp (disch:=omega) only [e3,SSx C]
    exact .inr ⟨r,rfl,by omega,y3⟩
  ·simp (disch:=omega) only [y1,SSx C]
   exact .inr ⟨r,rfl,by omega,y3⟩
 ·simp (disch:=omega) only [e1,SSx C]
  exact .inl ⟨_,k,rfl,Nat.le_refl _,hk,by simp only [szs]; omega,trivial⟩
theorem signo {n k:Nat} (hk:k <= l.length) (hn:20000 <= n) :
    (∃ (s:Str) (t:Typ) (ys:List Nod) (a:Int) (q:Nat),a0d n l k size = some (.ok (s,t,ys,a,(q:Int))) /\ k <= q /\ q <= l.length /\ t.sz + szN ys + 2 + 4 * k <= 4 * q) ∨
    (∃ q:Nat,a0d n l k size = some (.pan (H7 l size q,(q:Int))) /\ k <= q /\ q <= l.length):=by
  have hl:=C.hl
  unfold a0d
  rcases kyx C (k:=k) (by omega) 102 [117,110,99] with ⟨b,hb,e1,e2,e3,e4,e5⟩ | ⟨b,e1,e2,e3,e4,e5⟩
  case inr =>
    simp (disch:=omega) only [e3,SSx C]
    exact .inr ⟨k,rfl,Nat.le_refl _,hk⟩
  simp (disch:=omega) only [e3,SSx C]
  rcases nmx C hb with ⟨c,hc,e1,e2,e3⟩ | ⟨c,e1,e2,e3⟩
  case inr =>
    simp (disch:=omega) only [e1,SSx C]
    exact .inr ⟨k + 1,rfl,by omega,hb⟩
  simp (disch:=omega) only [e1,SSx C]
  rcases b1V C (n:=n) hc hn with ⟨gs,q,p1,p3,p4,p5,_⟩ | ⟨q,p1,p3,p4⟩
  case inr =>
    simp (disch:=omega) only [p1,SSx C]
    exact .inr ⟨q,rfl,by omega,p4⟩
  have hgs:=X7 gs
  simp (disch:=omega) only [p1,SSx C]
  rcases paramso C (n:=n) p4 hn with ⟨ps,q2,r1,r3,r4,r5,_⟩ | ⟨q2,r1,r3,r4⟩
  case inr =>
    simp (disch:=omega) only [r1,SSx C]
    exact .inr ⟨q2,rfl,by omega,r4⟩
  have hps:=X7 ps
  have a1:app 144 gs ps = some (gs ++ ps):=a1s (by omega) (by omega) (by omega)
  rw [r1]
  simp only [H6,a1,Option.bind_some]
  rw [a3I C r4,Option.bind_some]
  have thr:(∃ (ys:List Nod) (q3:Nat),((F3 [116,104,114,111,119,115] l q2 size).bind fun (r13,at14) =>
      cond r13 (
      A8 (p9 [40] l at14 size) (fun at15 =>
      A8 (D6 n l at15 size) (fun (r16,at17) =>
      A8 (p9 [41] l at17 size) (fun at18 =>
      (app 144 (gs ++ ps) ([(⟨11,[],0,r16,[],[],H7 l size q2⟩:Nod)]:List Nod)).bind fun l19 =>
      some (.brk (at18,l19))) fun (at20,at21) =>
      some (.out (.pan (at20,at21)))) fun (at22,at23) =>
      some (.out (.pan (at22,at23)))) fun (at24,at25) =>
      some (.out (.pan (at24,at25)))) (
      some (.brk (at14,(gs ++ ps))))) = some (Lr.brk (α:=Int × List Nod) (ρ:=Rs (Str × Typ × List Nod × Int × Int) (Int × Int)) ((q3:Int),ys)) /\ q2 <= q3 /\ q3 <= l.length /\ szN ys + 4 * q2 <= szN gs + szN ps + 4 * q3) ∨
      (∃ q3:Nat,((F3 [116,104,114,111,119,115] l q2 size).bind fun (r13,at14) =>
      cond r13 (
      A8 (p9 [40] l at14 size) (fun at15 =>
      A8 (D6 n l at15 size) (fun (r16,at17) =>
      A8 (p9 [41] l at17 size) (fun at18 =>
      (app 144 (gs ++ ps) ([(⟨11,[],0,r16,[],[],H7 l size q2⟩:Nod)]:List Nod)).bind fun l19 =>
      some (.brk (at18,l19))) fun (at20,at21) =>
      some (.out (.pan (at20,at21)))) fun (at22,at23) =>
      some (.out (.pan (at22,at23)))) fun (at24,at25) =>
      some (.out (.pan (at24,at25)))) (
      some (.brk (at14,(gs ++ ps))))) = some (Lr.out (α:=Int × List Nod) (ρ:=Rs (Str × Typ × List Nod × Int × Int) (Int × Int)) (.pan (H7 l size q3,(q3:Int)))) /\ q2 <= q3 /\ q3 <= l.length):=by
    rcases kyx C (k:=q2) r4 116 [104,114,111,119,115] with ⟨b,hb,e1,e2,e3,e4,e5⟩ | ⟨b,e1,e2,e3,e4,e5⟩
    · rw [e1]
      simp only [Option.bind_some,cond_true]
      rcases sgx C hb 40 [] with ⟨b,hb,e1,e2,e3,e4,e5⟩ | ⟨b,e1,e2,e3,e4,e5⟩
      case inr =>
        rw [e3]
        exact .inr ⟨q2 + 1,rfl,by omega,hb⟩
      rw [e3]
      simp only [H6]
      rcases typo C hb hn with ⟨t,q3,s1,s3,s4,s5⟩ | ⟨q3,s1,s3,s4⟩
      case inr =>
        rw [s1]
        exact .inr ⟨q3,rfl,by omega,s4⟩
      rw [s1]
      simp only [H6]
      rcases sgx C s4 41 [] with ⟨b,hb,e1,e2,e3,e4,e5⟩ | ⟨b,e1,e2,e3,e4,e5⟩
      case inr =>
        rw [e3]
        exact .inr ⟨q3,rfl,by omega,s4⟩
      rw [e3]
      simp only [H6]
      rw [a1s (by simp only [List.length_append]; omega) (by simp) (by omega)]
      exact .inl ⟨_,q3 + 1,rfl,by omega,hb,by simp only [szs]; omega⟩
    · rw [e1]
      simp only [Option.bind_some,cond_false]
      exact .inl ⟨gs ++ ps,q2,rfl,Nat.le_refl _,r4,by simp only [szs]; omega⟩
  rcases thr with ⟨ys,q3,g1,g2,g3,g4⟩ | ⟨q3,g1,g2,g3⟩
  case inr =>
    rw [g1]
    exact .inr ⟨q3,rfl,by omega,g3⟩
  have hys:=X7 ys
  rw [g1]
  simp only [U3]
  rcases resulto C (n:=n) g3 hn with ⟨t,q4,s1,s3,s4,s5⟩ | ⟨q4,s1,s3,s4⟩
  case inr =>
    rw [s1]
    exact .inr ⟨q4,rfl,by omega,s4⟩
  rw [s1]
  simp only [H6]
  rcases whereo C (n:=n) s4 hn with ⟨ws,q5,u1,u3,u4,u5,_⟩ | ⟨q5,u1,u3,u4⟩
  case inr =>
    rw [u1]
    exact .inr ⟨q5,rfl,by omega,u4⟩
  have hws:=X7 ws
  rw [u1]
  simp only [H6]
  rw [a1s (by omega) (by omega) (by omega)]
  exact .inl ⟨_,t,_,_,q5,rfl,by omega,u4,by simp only [szs]; omega⟩
theorem funco {n k:Nat} (hk:k <= l.length) (hn:90000 <= n):OkN l size k Nod.sz (fun x=>x.op = 7 /\ x.n = 1) (a0O n l k size):=by
 have hl:=C.hl
 unfold a0O
 rcases signo C (n:=n) hk (by omega) with ⟨s,t,ys,a,q,p1,p3,p4,p5⟩ | ⟨q,p1,p3,p4⟩
 ·have hys:=X7 ys
  rw [p1]
  simp only [H6]
  rcases blocko C (n:=n) p4 hn with ⟨x,q2,r1,r3,r4,r5,_⟩ | ⟨q2,f,r1,r3,r4,r5⟩
  ·rw [r1]
   simp only [H6]
   rw [a1s (by omega) (by simp) (by omega)]
   exact .inl ⟨_,q2,rfl,by omega,r4,by simp only [szs]; omega,rfl,rfl⟩
  ·rw [r1]
   exact .inr ⟨q2,f,rfl,by omega,r4,r5.up (by omega)⟩
 ·rw [p1]
  exact .inr ⟨q,_,rfl,p3,p4,.inl rfl⟩
theorem b2B {n k0:Nat} (hn:20000 <= n):∀ (m k:Nat) (xs:List Nod),k0 <= k -> k <= l.length -> l.length - k < m -> szN xs + 4 * k0 <= 4 * k ->
  (∃ (ys:List Nod) (q:Nat),a0a n size l m xs k = some (.brk (ys,(q:Int))) /\ k0 <= q /\ q <= l.length /\ szN ys + 4 * k0 <= 4 * q) ∨
  (∃ q:Nat,a0a n size l m xs k = some (.out (.pan (⟨⟨20,H7 l size q⟩⟩,(q:Int)))) /\ k0 <= q /\ q <= l.length)
 | 0,k,xs,h1,h2,h3,h4=>by omega
 | m + 1,k,xs,h1,h2,h3,h4=>by
  have hl:=C.hl
  have hlen:=X7 xs
  have mode:(∃ nn:Int,k + 1 <= l.length /\ ((u6 0 9 [108,101,116] l k size).bind fun r5 =>
   cond r5 (
   some true) (
   (u6 0 9 [118,97,114] l k size).bind fun r6 =>
   some r6)) = some true /\ ((F3 [118,97,114] l k size).bind fun (r8,at9) =>
   cond r8 (
   some (at9,(1:Int))) (
   some ((w64 (at9 + 1)),0))) = some (((k + 1:Nat):Int),nn)) ∨ ((u6 0 9 [108,101,116] l k size).bind fun r5 =>
   cond r5 (
   some true) (
   (u6 0 9 [118,97,114] l k size).bind fun r6 =>
   some r6)) = some false:=by
   rcases kyx C (k:=k) h2 108 [101,116] with ⟨b,hb,e1,e2,e3,e4,e5⟩ | ⟨b,e1,e2,e3,e4,e5⟩
   ·have b2:isT l 9 [118,97,114] k = false:=b6i C b (by decide)
    obtain ⟨f1,f2,f3,f4,f5⟩:=kyn C h2 b2
    rw [e4,f1]
    simp only [Option.bind_some,cond_true,cond_false]
    rw [X3 (by omega)]
    exact .inl ⟨0,hb,by first | rfl | trivial,by first | rfl | trivial⟩
   ·rw [e4]
    simp only [Option.bind_some,cond_false]
    rcases kyx C (k:=k) h2 118 [97,114] with ⟨b,hb,e1,e2,e3,e4,e5⟩ | ⟨b,e1,e2,e3,e4,e5⟩
    ·rw [e4,e1]
     exact .inl ⟨1,hb,by first | rfl | trivial,by first | rfl | trivial⟩
    ·rw [e4]; exact .inr rfl
  rw [a0a.eq_2]
  rcases mode with ⟨nn,hb,m1,m2⟩ | m1
  ·rw [m1,Option.bind_some,cond_true,a3I C h2,Option.bind_some,m2,Option.bind_some]
   simp only
   rcases nmx C hb with ⟨c,hc,e1,e2,e3⟩ | ⟨c,e1,e2,e3⟩
   case inr =>
    rw [e1]
    exact .inr ⟨k + 1,rfl,by omega,hb⟩
   rw [e1,H6,X3 (by omega)]
   rcases sgx C hc 58 [] with ⟨b,hb,e1,e2,e3,e4,e5⟩ | ⟨b,e1,e2,e3,e4,e5⟩
   case inr =>
    rw [e3]
    exact .inr ⟨k + 1 + 1,rfl,by omega,hc⟩
   rw [e3,H6]
   rcases typo C hb hn with ⟨t,q,p1,p3,p4,p5⟩ | ⟨q,p1,p3,p4⟩
   case inr =>
    rw [p1]
    exact .inr ⟨q,rfl,by omega,p4⟩
   rw [p1,H6]
   simp only
   rcases sgx C p4 59 [] with ⟨b,hb,e1,e2,e3,e4,e5⟩ | ⟨b,e1,e2,e3,e4,e5⟩
   case inr =>
    rw [e3]
    exact .inr ⟨q,rfl,by omega,p4⟩
   rw [e3,H6,a1s (by omega) (by simp) (by omega),Option.bind_some]
   exact b2B hn m (q + 1) _ (by omega) hb (by omega) (by simp only [szs]; omega)
  ·rw [m1,Option.bind_some,cond_false]
   exact .inl ⟨xs,k,rfl,h1,h2,h4⟩
theorem fieldso {n k:Nat} (hk:k <= l.length) (hn:90000 <= n):OkN l size k szN (fun _=>True) (a0j n l k size):=by
 have hl:=C.hl
 unfold a0j
 rcases sgx C hk 123 [] with ⟨b,hb,e1,e2,e3,e4,e5⟩ | ⟨b,e1,e2,e3,e4,e5⟩
 case inr =>
  rw [e3]
  exact .inr ⟨k,_,rfl,Nat.le_refl _,hk,.inl rfl⟩
 rw [e3,H6]
 rcases b2B C (n:=n) (k0:=k) (by omega) n (k + 1) [] (by omega) hb (by omega) (by simp only [szs]; omega) with ⟨ys,r,y1,y2,y3,y4⟩ | ⟨r,y1,y2,y3⟩
 case inr =>
  rw [y1]
  exact .inr ⟨r,_,rfl,by omega,y3,.inl rfl⟩
 have hys:=X7 ys
 rw [y1,U3]
 simp only
 rw [a3I C y3,Option.bind_some]
 rcases kyx C y3 100 [101,105,110,105,116] with ⟨b,hb,e1,e2,e3,e4,e5⟩ | ⟨b,e1,e2,e3,e4,e5⟩
 ·rw [e1]
  simp only [Option.bind_some,cond_true]
  rcases blocko C (n:=n) hb hn with ⟨x,q2,r1,r3,r4,r5,_⟩ | ⟨q2,f,r1,r3,r4,r5⟩
  case inr =>
   rw [r1]
   exact .inr ⟨q2,f,rfl,by omega,r4,r5.up (by omega)⟩
  rw [r1,H6]
  simp only
  rw [a1s (by omega) (by simp) (by omega),Option.bind_some,U3]
  simp only
  rcases sgx C r4 125 [] with ⟨b,hd,e1,e2,e3,e4,e5⟩ | ⟨b,e1,e2,e3,e4,e5⟩
  ·rw [e3]
   exact .inl ⟨_,q2 + 1,rfl,by omega,hd,by simp only [szs]; omega,trivial⟩
  ·rw [e3]
   exact .inr ⟨q2,_,rfl,by omega,r4,.inl rfl⟩
 ·rw [e1]
  simp only [Option.bind_some,cond_false,U3]
  rcases sgx C y3 125 [] with ⟨b,hd,e1,e2,e3,e4,e5⟩ | ⟨b,e1,e2,e3,e4,e5⟩
  ·rw [e3]
   exact .inl ⟨_,r + 1,rfl,by omega,hd,by omega,trivial⟩
  ·rw [e3]
   exact .inr ⟨r,_,rfl,by omega,y3,.inl rfl⟩
theorem b3G {n k0:Nat} {xs:List Nod} {nn:Int} (hn:20000 <= n):∀ (m k:Nat) (ts:List Typ),k0 <= k -> k <= l.length -> l.length - k < m -> szT ts + k0 <= k ->
  (∃ (us:List Typ) (q:Nat),Z8 n size l m xs k nn ts = some (.brk (xs,(q:Int),nn,us)) /\ k0 <= q /\ q <= l.length /\ szT us + k0 <= q) ∨
  (∃ q:Nat,Z8 n size l m xs k nn ts = some (.out (.pan (H7 l size q,(q:Int)))) /\ k0 <= q /\ q <= l.length)
 | 0,k,ts,h1,h2,h3,h4=>by omega
 | m + 1,k,ts,h1,h2,h3,h4=>by
  have hl:=C.hl
  have hlen:=b3r ts
  rw [Z8.eq_2]
  rcases sgx C h2 44 [] with ⟨b,hb,e1,e2,e3,e4,e5⟩ | ⟨b,e1,e2,e3,e4,e5⟩
  ·rw [e1]
   simp only [Option.bind_some,cond_true]
   rcases typo C hb hn with ⟨t,q,p1,p3,p4,p5⟩ | ⟨q,p1,p3,p4⟩
   ·rw [p1,H6]
    simp only
    rw [a1s (by omega) (by simp) (by omega),Option.bind_some]
    exact b3G hn m q (ts ++ [t]) (by omega) p4 (by omega) (by rw [a9d,a9e]; omega)
   ·rw [p1]
    exact .inr ⟨q,rfl,by omega,p4⟩
  ·rw [e1]
   exact .inl ⟨ts,k,rfl,h1,h2,h4⟩
theorem b3F {n k0:Nat} (hn:20000 <= n):∀ (m k:Nat) (xs:List Nod),k0 <= k -> k <= l.length -> l.length - k < m -> szN xs + 4 * k0 <= 4 * k ->
  (∃ (ys:List Nod) (q:Nat),U1 n size l m xs k = some (.brk (ys,(q:Int))) /\ k0 <= q /\ q <= l.length /\ szN ys + 4 * k0 <= 4 * q) ∨
  (∃ q:Nat,U1 n size l m xs k = some (.out (.pan (H7 l size q,(q:Int)))) /\ k0 <= q /\ q <= l.length)
 | 0,k,xs,h1,h2,h3,h4=>by omega
 | m + 1,k,xs,h1,h2,h3,h4=>by
  have hl:=C.hl
  have hlen:=X7 xs
  rw [U1.eq_2]
  rcases sgx C h2 125 [] with ⟨b,hb,e1,e2,e3,e4,e5⟩ | ⟨b,e1,e2,e3,e4,e5⟩
  ·rw [e1]
   exact .inl ⟨xs,k + 1,rfl,by omega,hb,by omega⟩
  rw [e1]
  simp only [Option.bind_some,Bool.not_false,cond_true]
  rw [a3I C h2,Option.bind_some]
  obtain ⟨j,nn,m1,j1,j2⟩:∃ (j:Nat) (nn:Int),((F3 [105,110,100,105,114,101,99,116] l k size).bind fun (r8,at9) =>
   cond r8 (
   some (at9,(1:Int))) (
   some (at9,0))) = some ((j:Int),nn) /\ k <= j /\ j <= l.length:=by
   rcases kyx C (k:=k) h2 105 [110,100,105,114,101,99,116] with ⟨b,hb,e1,e2,e3,e4,e5⟩ | ⟨b,e1,e2,e3,e4,e5⟩
   ·rw [e1]; exact ⟨k + 1,1,rfl,by omega,hb⟩
   ·rw [e1]; exact ⟨k,0,rfl,Nat.le_refl _,h2⟩
  rw [m1,Option.bind_some]
  simp only
  rcases kyx C j2 99 [97,115,101] with ⟨b,hb,e1,e2,e3,e4,e5⟩ | ⟨b,e1,e2,e3,e4,e5⟩
  case inr =>
   rw [e3]
   exact .inr ⟨j,rfl,by omega,j2⟩
  rw [e3,H6]
  rcases nmx C hb with ⟨c,hc,e1,e2,e3⟩ | ⟨c,e1,e2,e3⟩
  case inr =>
   rw [e1]
   exact .inr ⟨j + 1,rfl,by omega,hb⟩
  rw [e1,H6,X3 (by omega)]
  have fin:∀ (q:Nat) (us:List Typ),j + 1 + 1 <= q -> q <= l.length -> szT us + (j + 1 + 1) <= q ->
   (∃ (ys:List Nod) (r:Nat),(A8 (p9 [59] l (q:Int) size) (fun at29 =>
   (app 144 xs ([(⟨14,N9 l (j + 1),nn,(⟨0,[],0,[]⟩:Typ),us,[],H7 l size k⟩:Nod)]:List Nod)).bind fun l30 =>
   U1 n size l m l30 at29) fun (at31,at32) =>
   some (.out (.pan (at31,at32)))) = some (.brk (ys,(r:Int))) /\ k0 <= r /\ r <= l.length /\ szN ys + 4 * k0 <= 4 * r) ∨
   (∃ r:Nat,(A8 (p9 [59] l (q:Int) size) (fun at29 =>
   (app 144 xs ([(⟨14,N9 l (j + 1),nn,(⟨0,[],0,[]⟩:Typ),us,[],H7 l size k⟩:Nod)]:List Nod)).bind fun l30 =>
   U1 n size l m l30 at29) fun (at31,at32) =>
   some (.out (.pan (at31,at32)))) = some (.out (.pan (H7 l size r,(r:Int)))) /\ k0 <= r /\ r <= l.length):=by
   intro q us g1 g2 g3
   rcases sgx C g2 59 [] with ⟨b,hb,e1,e2,e3,e4,e5⟩ | ⟨b,e1,e2,e3,e4,e5⟩
   ·rw [e3,H6,a1s (by omega) (by simp) (by omega),Option.bind_some]
    exact b3F hn m (q + 1) _ (by omega) hb (by omega) (by simp only [szs]; omega)
   ·rw [e3]
    exact .inr ⟨q,rfl,by omega,g2⟩
  rcases sgx C hc 40 [] with ⟨b,hd,e1,e2,e3,e4,e5⟩ | ⟨b,e1,e2,e3,e4,e5⟩
  ·rw [e1]
   simp only [Option.bind_some,cond_true]
   rcases typo C hd hn with ⟨t,q,p1,p3,p4,p5⟩ | ⟨q,p1,p3,p4⟩
   case inr =>
    rw [p1]
    exact .inr ⟨q,rfl,by omega,p4⟩
   rw [p1,H6]
   simp only
   rw [a1s (by simp) (by simp) (by omega),Option.bind_some,List.nil_append]
   rcases b3G C (n:=n) (k0:=j + 1 + 1) (xs:=xs) (nn:=nn) hn n q [t] (by omega) p4 (by omega) (by rw [a9e]; omega) with ⟨us,r,y1,y2,y3,y4⟩ | ⟨r,y1,y2,y3⟩
   case inr =>
    rw [y1]
    exact .inr ⟨r,rfl,by omega,y3⟩
   rw [y1,a1y]
   simp only
   rcases sgx C y3 41 [] with ⟨b,hd,e1,e2,e3,e4,e5⟩ | ⟨b,e1,e2,e3,e4,e5⟩
   ·rw [e3,H6,a1y]
    exact fin (r + 1) us (by omega) hd (by omega)
   ·rw [e3]
    exact .inr ⟨r,rfl,by omega,y3⟩
  ·rw [e1]
   simp only [Option.bind_some,cond_false,a1y]
   exact fin (j + 1 + 1) [] (by omega) hc (by simp only [szs]; omega)
theorem caseso {n k:Nat} (hk:k <= l.length) (hn:20000 <= n):OkS l size k szN (fun _=>True) (a1C n l k size):=by
 have hl:=C.hl
 unfold a1C
 rcases sgx C hk 123 [] with ⟨b,hb,e1,e2,e3,e4,e5⟩ | ⟨b,e1,e2,e3,e4,e5⟩
 case inr =>
  rw [e3]
  exact .inr ⟨k,rfl,Nat.le_refl _,hk⟩
 rw [e3,H6]
 rcases b3F C (n:=n) (k0:=k) hn n (k + 1) [] (by omega) hb (by omega) (by simp only [szs]; omega) with ⟨ys,r,y1,y2,y3,y4⟩ | ⟨r,y1,y2,y3⟩
 ·rw [y1]
  exact .inl ⟨ys,r,rfl,by omega,y3,y4,trivial⟩
 ·rw [y1]
  exact .inr ⟨r,rfl,by omega,y3⟩
theorem b4t {n k0:Nat} (hn:20000 <= n):∀ (m k:Nat) (xs:List Nod),k0 <= k -> k <= l.length -> l.length - k < m -> szN xs + 4 * k0 <= 4 * k ->
  (∃ (ys:List Nod) (q:Nat),V9 n size l m k xs = some (.brk ((q:Int),ys)) /\ k0 <= q /\ q <= l.length /\ szN ys + 4 * k0 <= 4 * q) ∨
  (∃ q:Nat,V9 n size l m k xs = some (.out (.pan (H7 l size q,(q:Int)))) /\ k0 <= q /\ q <= l.length)
 | 0,k,xs,h1,h2,h3,h4=>by omega
 | m + 1,k,xs,h1,h2,h3,h4=>by
  have hl:=C.hl
  have hlen:=X7 xs
  rw [V9.eq_2]
  rcases kyx C (k:=k) h2 116 [121,112,101] with ⟨b,hb,e1,e2,e3,e4,e5⟩ | ⟨b,e1,e2,e3,e4,e5⟩
  case inr =>
   rw [e4]
   exact .inl ⟨xs,k,rfl,h1,h2,h4⟩
  simp (disch:=omega) only [e4,SSx C]
  rcases capx C hb with ⟨hc,e⟩ | e
  case inr =>
   simp (disch:=omega) only [e,SSx C]
   exact .inr ⟨k + 1,rfl,by omega,hb⟩
  simp (disch:=omega) only [e,SSx C]
  rcases b8U C (n:=n) hc hn with ⟨bs,q,p1,p3,p4,p5,_⟩ | ⟨q,p1,p3,p4⟩
  case inr =>
   simp (disch:=omega) only [p1,SSx C]
   exact .inr ⟨q,rfl,by omega,p4⟩
  simp (disch:=omega) only [p1,SSx C]
  rcases sgx C p4 59 [] with ⟨b,hd,e1,e2,e3,e4,e5⟩ | ⟨b,e1,e2,e3,e4,e5⟩
  case inr =>
   simp (disch:=omega) only [e3,SSx C]
   exact .inr ⟨q,rfl,by omega,p4⟩
  have a1:app 144 xs [(⟨16,N9 l (k + 1),0,zT,[],bs,H7 l size k⟩:Nod)] = some (xs ++ [(⟨16,N9 l (k + 1),0,zT,[],bs,H7 l size k⟩:Nod)]):=a1s (by omega) (by simp) (by omega)
  simp (disch:=omega) only [e3,a1,SSx C]
  exact b4t hn m (q + 1) _ (by omega) hd (by omega) (by simp only [szs]; omega)
theorem b2L {n k0:Nat} (hn:20000 <= n):∀ (m k:Nat) (xs:List Nod),k0 <= k -> k <= l.length -> l.length - k < m -> szN xs + 4 * k0 <= 4 * k ->
  (∃ (ys:List Nod) (q:Nat),U9 n size l m k xs = some (.brk ((q:Int),ys)) /\ k0 <= q /\ q <= l.length /\ szN ys + 4 * k0 <= 4 * q) ∨
  (∃ q:Nat,U9 n size l m k xs = some (.out (.pan (H7 l size q,(q:Int)))) /\ k0 <= q /\ q <= l.length)
 | 0,k,xs,h1,h2,h3,h4=>by omega
 | m + 1,k,xs,h1,h2,h3,h4=>by
  have hl:=C.hl
  have hlen:=X7 xs
  rw [U9.eq_2]
  rcases kyx C (k:=k) (by omega) 102 [117,110,99] with ⟨b,hb,e1,e2,e3,e4,e5⟩ | ⟨b,e1,e2,e3,e4,e5⟩
  case inr =>
   rw [e4]
   exact .inl ⟨xs,k,rfl,h1,h2,h4⟩
  rw [e4,Option.bind_some,cond_true]
  rcases signo C (n:=n) h2 hn with ⟨s,t,zs,a,q,p1,p3,p4,p5⟩ | ⟨q,p1,p3,p4⟩
  case inr =>
   rw [p1]
   exact .inr ⟨q,rfl,by omega,p4⟩
  rw [p1,H6]
  simp only
  rcases sgx C p4 59 [] with ⟨b,hd,e1,e2,e3,e4,e5⟩ | ⟨b,e1,e2,e3,e4,e5⟩
  case inr =>
   rw [e3]
   exact .inr ⟨q,rfl,by omega,p4⟩
  rw [e3,H6,a1s (by omega) (by simp) (by omega),Option.bind_some]
  exact b2L hn m (q + 1) _ (by omega) hd (by omega) (by simp only [szs]; omega)
theorem proto {n k:Nat} (hk:k <= l.length) (hn:20000 <= n):OkS l size k Nod.sz (fun x=>x.op = 5) (a1v n l k size):=by
 have hl:=C.hl
 unfold a1v
 rcases kyx C (k:=k) (by omega) 112 [114,111,116,111,99,111,108] with ⟨b,hb,e1,e2,e3,e4,e5⟩ | ⟨b,e1,e2,e3,e4,e5⟩
 case inr =>
  simp (disch:=omega) only [e3,SSx C]
  exact .inr ⟨k,rfl,Nat.le_refl _,hk⟩
 simp (disch:=omega) only [e3,SSx C]
 rcases capx C hb with ⟨hc,e⟩ | e
 case inr =>
  simp (disch:=omega) only [e,SSx C]
  exact .inr ⟨k + 1,rfl,by omega,hb⟩
 simp (disch:=omega) only [e,SSx C]
 rcases sgx C hc 123 [] with ⟨b,hd,e1,e2,e3,e4,e5⟩ | ⟨b,e1,e2,e3,e4,e5⟩
 case inr =>
  simp (disch:=omega) only [e3,SSx C]
  exact .inr ⟨k + 1 + 1,rfl,by omega,hc⟩
 simp (disch:=omega) only [e3,SSx C]
 rcases b4t C (n:=n) (k0:=k + 1) hn n (k + 1 + 1 + 1) [] (by omega) hd (by omega) (by simp only [szs]; omega) with ⟨ys,r,y1,y2,y3,y4⟩ | ⟨r,y1,y2,y3⟩
 case inr =>
  simp (disch:=omega) only [y1,SSx C]
  exact .inr ⟨r,rfl,by omega,y3⟩
 simp (disch:=omega) only [y1,SSx C]
 rcases b2L C (n:=n) (k0:=k + 1) hn n r ys (by omega) y3 (by omega) y4 with ⟨zs,u,z1,z2,z3,z4⟩ | ⟨u,z1,z2,z3⟩
 case inr =>
  simp (disch:=omega) only [z1,SSx C]
  exact .inr ⟨u,rfl,by omega,z3⟩
 simp (disch:=omega) only [z1,SSx C]
 rcases sgx C z3 125 [] with ⟨b,hd,e1,e2,e3,e4,e5⟩ | ⟨b,e1,e2,e3,e4,e5⟩
 ·simp (disch:=omega) only [e3,SSx C]
  exact .inl ⟨_,u + 1,rfl,by omega,hd,by simp only [szs]; omega,rfl⟩
 ·simp (disch:=omega) only [e3,SSx C]
  exact .inr ⟨u,rfl,by omega,z3⟩
theorem b5h {n k0:Nat} (hn:20000 <= n):∀ (m k:Nat) (xs:List Nod),k0 <= k -> k <= l.length -> l.length - k < m -> szN xs + 4 * k0 <= 4 * k ->
  (∃ (ys:List Nod) (q:Nat),Z9 n size l m k xs = some (.brk ((q:Int),ys)) /\ k0 <= q /\ q <= l.length /\ szN ys + 4 * k0 <= 4 * q) ∨
  (∃ q:Nat,Z9 n size l m k xs = some (.out (.pan (⟨⟨20,H7 l size q⟩⟩,(q:Int)))) /\ k0 <= q /\ q <= l.length)
 | 0,k,xs,h1,h2,h3,h4=>by omega
 | m + 1,k,xs,h1,h2,h3,h4=>by
  have hl:=C.hl
  have hlen:=X7 xs
  rw [Z9.eq_2]
  rcases kyx C (k:=k) h2 116 [121,112,101] with ⟨b,hb,e1,e2,e3,e4,e5⟩ | ⟨b,e1,e2,e3,e4,e5⟩
  case inr =>
   rw [e4]
   exact .inl ⟨xs,k,rfl,h1,h2,h4⟩
  simp (disch:=omega) only [e4,SSx C]
  rcases capx C hb with ⟨hc,e⟩ | e
  case inr =>
   simp (disch:=omega) only [e,SSx C]
   exact .inr ⟨k + 1,rfl,by omega,hb⟩
  simp (disch:=omega) only [e,SSx C]
  rcases sgx C hc 61 [] with ⟨b,hd,e1,e2,e3,e4,e5⟩ | ⟨b,e1,e2,e3,e4,e5⟩
  case inr =>
   simp (disch:=omega) only [e3,SSx C]
   exact .inr ⟨k + 1 + 1,rfl,by omega,hc⟩
  simp (disch:=omega) only [e3,SSx C]
  rcases typo C hd hn with ⟨t,q,p1,p3,p4,p5⟩ | ⟨q,p1,p3,p4⟩
  case inr =>
   simp (disch:=omega) only [p1,SSx C]
   exact .inr ⟨q,rfl,by omega,p4⟩
  simp (disch:=omega) only [p1,SSx C]
  rcases sgx C p4 59 [] with ⟨b,hd2,e1,e2,e3,e4,e5⟩ | ⟨b,e1,e2,e3,e4,e5⟩
  case inr =>
   simp (disch:=omega) only [e3,SSx C]
   exact .inr ⟨q,rfl,by omega,p4⟩
  have a1:app 144 xs [(⟨17,N9 l (k + 1),0,t,[],[],H7 l size k⟩:Nod)] = some (xs ++ [(⟨17,N9 l (k + 1),0,t,[],[],H7 l size k⟩:Nod)]):=a1s (by omega) (by simp) (by omega)
  simp (disch:=omega) only [e3,a1,SSx C]
  exact b5h hn m (q + 1) _ (by omega) hd2 (by omega) (by simp only [szs]; omega)
theorem b3I {n k0:Nat} (hn:90000 <= n):∀ (m k:Nat) (xs:List Nod),k0 <= k -> k <= l.length -> l.length - k < m -> szN xs + 4 * k0 <= 4 * k ->
  (∃ (ys:List Nod) (q:Nat),Y1 n size l m k xs = some (.brk ((q:Int),ys)) /\ k0 <= q /\ q <= l.length /\ szN ys + 4 * k0 <= 4 * q) ∨
  (∃ (q:Nat) (f:o5),Y1 n size l m k xs = some (.out (.pan (f,(q:Int)))) /\ k0 <= q /\ q <= l.length /\ b3u l size k0 q f)
 | 0,k,xs,h1,h2,h3,h4=>by omega
 | m + 1,k,xs,h1,h2,h3,h4=>by
  have hl:=C.hl
  have hlen:=X7 xs
  rw [Y1.eq_2]
  rcases kyx C (k:=k) (by omega) 102 [117,110,99] with ⟨b,hb,e1,e2,e3,e4,e5⟩ | ⟨b,e1,e2,e3,e4,e5⟩
  case inr =>
   rw [e4]
   exact .inl ⟨xs,k,rfl,h1,h2,h4⟩
  rw [e4,Option.bind_some,cond_true]
  rcases funco C (n:=n) h2 hn with ⟨x,q,p1,p3,p4,p5,_⟩ | ⟨q,f,p1,p3,p4,p5⟩
  case inr =>
   rw [p1]
   exact .inr ⟨q,f,rfl,by omega,p4,p5.up (by omega)⟩
  have hx:=x.a2q
  rw [p1,H6]
  simp only
  rw [a1s (by omega) (by simp) (by omega),Option.bind_some]
  exact b3I hn m q _ (by omega) p4 (by omega) (by simp only [szs]; omega)
theorem exto {n k:Nat} (hk:k <= l.length) (hn:90000 <= n):OkN l size k Nod.sz (fun x=>x.op = 6) (a1X n l k size):=by
 have hl:=C.hl
 unfold a1X
 rcases kyx C (k:=k) (by omega) 101 [120,116,101,110,100] with ⟨b,hb,e1,e2,e3,e4,e5⟩ | ⟨b,e1,e2,e3,e4,e5⟩
 case inr =>
  simp (disch:=omega) only [e3,SSx C]
  exact .inr ⟨k,_,rfl,Nat.le_refl _,hk,.inl rfl⟩
 simp (disch:=omega) only [e3,SSx C]
 rcases typo C (n:=n) hb (by omega) with ⟨t,q,p1,p3,p4,p5⟩ | ⟨q,p1,p3,p4⟩
 case inr =>
  simp (disch:=omega) only [p1,SSx C]
  exact .inr ⟨q,_,rfl,by omega,p4,.inl rfl⟩
 simp (disch:=omega) only [p1,SSx C]
 rcases sgx C p4 58 [] with ⟨b,hd,e1,e2,e3,e4,e5⟩ | ⟨b,e1,e2,e3,e4,e5⟩
 case inr =>
  simp (disch:=omega) only [e3,SSx C]
  exact .inr ⟨q,_,rfl,by omega,p4,.inl rfl⟩
 simp (disch:=omega) only [e3,SSx C]
 rcases capx C hd with ⟨hc,e⟩ | e
 case inr =>
  simp (disch:=omega) only [e,SSx C]
  exact .inr ⟨q + 1,_,rfl,by omega,hd,.inl rfl⟩
 simp (disch:=omega) only [e,SSx C]
 rcases whereo C (n:=n) hc (by omega) with ⟨ws,q5,u1,u3,u4,u5,_⟩ | ⟨q5,u1,u3,u4⟩
 case inr =>
  simp (disch:=omega) only [u1,SSx C]
  exact .inr ⟨q5,_,rfl,by omega,u4,.inl rfl⟩
 simp (disch:=omega) only [u1,SSx C]
 rcases sgx C u4 123 [] with ⟨b,hd,e1,e2,e3,e4,e5⟩ | ⟨b,e1,e2,e3,e4,e5⟩
 case inr =>
  simp (disch:=omega) only [e3,SSx C]
  exact .inr ⟨q5,_,rfl,by omega,u4,.inl rfl⟩
 simp (disch:=omega) only [e3,SSx C]
 rcases b5h C (n:=n) (k0:=q + 1) (by omega) n (q5 + 1) ws (by omega) hd (by omega) (by omega) with ⟨ys,r,y1,y2,y3,y4⟩ | ⟨r,y1,y2,y3⟩
 case inr =>
  simp (disch:=omega) only [y1,SSx C]
  exact .inr ⟨r,_,rfl,by omega,y3,.inl rfl⟩
 simp (disch:=omega) only [y1,SSx C]
 rcases b3I C (n:=n) (k0:=q + 1) hn n r ys (by omega) y3 (by omega) y4 with ⟨zs,u,z1,z2,z3,z4⟩ | ⟨u,f,z1,z2,z3,z4⟩
 case inr =>
  simp (disch:=omega) only [z1,SSx C]
  exact .inr ⟨u,f,rfl,by omega,z3,z4.up (by omega)⟩
 simp (disch:=omega) only [z1,SSx C]
 rcases sgx C z3 125 [] with ⟨b,hd,e1,e2,e3,e4,e5⟩ | ⟨b,e1,e2,e3,e4,e5⟩
 ·simp (disch:=omega) only [e3,SSx C]
  exact .inl ⟨_,u + 1,rfl,by omega,hd,by simp only [szs]; omega,rfl⟩
 ·simp (disch:=omega) only [e3,SSx C]
  exact .inr ⟨u,_,rfl,by omega,z3,.inl rfl⟩
def b3v (x:Nod):Prop:=2 <= x.op /\ x.op <= 7 /\ (x.op = 7 -> x.n = 1)
theorem declo {n k:Nat} (hk:k <= l.length) (hn:90000 <= n):OkN l size k Nod.sz b3v (a0T n l k size):=by
  have hl:=C.hl
  unfold a0T
  rcases kyx C (k:=k) (by omega) 112 [114,111,116,111,99,111,108] with ⟨b,hb,e1,e2,e3,e4,e5⟩ | ⟨b,e1,e2,e3,e4,e5⟩
  · rw [e4,Option.bind_some,cond_true]
    rcases proto C (n:=n) hk (by omega) with ⟨x,q,p1,p3,p4,p5,p6⟩ | ⟨q,p1,p3,p4⟩
    · rw [p1]
      exact .inl ⟨x,q,rfl,p3,p4,p5,by rw [p6]; decide,by rw [p6]; decide,fun h=>by rw [p6] at h; cases h⟩
    · rw [p1]
      exact .inr ⟨q,_,rfl,p3,p4,.inl rfl⟩
  rw [e4,Option.bind_some,cond_false]
  rcases kyx C (k:=k) (by omega) 101 [120,116,101,110,100] with ⟨b,hb,e1,e2,e3,e4,e5⟩ | ⟨b,e1,e2,e3,e4,e5⟩
  · rw [e4,Option.bind_some,cond_true]
    rcases exto C (n:=n) hk hn with ⟨x,q,p1,p3,p4,p5,p6⟩ | ⟨q,f,p1,p3,p4,p5⟩
    · rw [p1]
      exact .inl ⟨x,q,rfl,p3,p4,p5,by rw [p6]; decide,by rw [p6]; decide,fun h=>by rw [p6] at h; cases h⟩
    · rw [p1]
      exact .inr ⟨q,f,rfl,p3,p4,p5.up (by omega)⟩
  rw [e4,Option.bind_some,cond_false]
  rcases kyx C (k:=k) (by omega) 102 [117,110,99] with ⟨b,hb,e1,e2,e3,e4,e5⟩ | ⟨b,e1,e2,e3,e4,e5⟩
  · rw [e4,Option.bind_some,cond_true]
    rcases funco C (n:=n) hk hn with ⟨x,q,p1,p3,p4,p5,p6⟩ | ⟨q,f,p1,p3,p4,p5⟩
    · rw [p1]
      exact .inl ⟨x,q,rfl,p3,p4,p5,by rw [p6.1]; decide,by rw [p6.1]; decide,fun _=>p6.2⟩
    · rw [p1]
      exact .inr ⟨q,f,rfl,p3,p4,p5.up (by omega)⟩
  rw [e4,Option.bind_some,cond_false,a3I C hk,Option.bind_some]
  have recd:∀ (j:Nat) (op nn:Int),2 <= op -> op <= 4 -> k <= j -> j + 1 <= l.length -> OkN l size k Nod.sz b3v (A8 (G9 l ((j + 1:Nat):Int) size) (fun r22 =>
      A8 (P8 n l (w64 (((j + 1:Nat):Int) + 1)) size) (fun (r23,at24) =>
      A8 (a0j n l at24 size) (fun (r25,at26) =>
      (app 144 r23 r25).bind fun l27 =>
      some (.ok ((⟨op,r22,nn,(⟨0,[],0,[]⟩:Typ),[],l27,H7 l size k⟩:Nod),at26))) fun (e28,at29) =>
      some (.pan (e28,at29))) fun (at30,at31) =>
      some (.pan ((⟨(⟨20,at30⟩:Flt)⟩:o5),at31))) fun at32 =>
      some (.pan ((⟨(⟨20,at32⟩:Flt)⟩:o5),((j + 1:Nat):Int)))):=by
    intro j op nn o1 o2 j1 j2
    rcases capx C j2 with ⟨hc,e⟩ | e
    case inr =>
      rw [e]
      exact .inr ⟨j + 1,_,rfl,by omega,j2,.inl rfl⟩
    rw [e,H6,X3 (by omega)]
    rcases b1V C (n:=n) hc (by omega) with ⟨gs,q,p1,p3,p4,p5,_⟩ | ⟨q,p1,p3,p4⟩
    case inr =>
      rw [p1]
      exact .inr ⟨q,_,rfl,by omega,p4,.inl rfl⟩
    have hgs:=X7 gs
    rw [p1,H6]
    simp only
    rcases fieldso C (n:=n) p4 hn with ⟨fs,q2,r1,r3,r4,r5,_⟩ | ⟨q2,f,r1,r3,r4,r5⟩
    case inr =>
      rw [r1]
      exact .inr ⟨q2,f,rfl,by omega,r4,r5.up (by omega)⟩
    have hfs:=X7 fs
    rw [r1,H6]
    simp only
    rw [a1s (by omega) (by omega) (by omega),Option.bind_some]
    exact .inl ⟨_,q2,rfl,by omega,r4,by simp only [szs]; omega,o1,by show op <= 7; omega,fun h=>by have h:op = 7:=h; omega⟩
  rcases kyx C (k:=k) (by omega) 99 [108,97,115,115] with ⟨b,hb,e1,e2,e3,e4,e5⟩ | ⟨b,e1,e2,e3,e4,e5⟩
  · rw [e1,Option.bind_some]
    simp only [cond_true]
    exact recd k 4 0 (by decide) (by decide) (Nat.le_refl _) hb
  rw [e1,Option.bind_some]
  simp only [cond_false]
  obtain ⟨j,n1,m1,j1,j2⟩:∃ (j:Nat) (n1:Int),((F3 [109,111,118,101,111,110,108,121] l k size).bind fun (r33,at34) =>
      cond r33 (
      some (at34,(w64 (0 + 1)))) (
      some (at34,0))) = some ((j:Int),n1) /\ k <= j /\ j <= l.length:=by
    rcases kyx C (k:=k) (by omega) 109 [111,118,101,111,110,108,121] with ⟨b,hb,e1,e2,e3,e4,e5⟩ | ⟨b,e1,e2,e3,e4,e5⟩
    · rw [e1]; exact ⟨k + 1,_,rfl,by omega,hb⟩
    · rw [e1]; exact ⟨k,_,rfl,Nat.le_refl _,hk⟩
  rw [m1,Option.bind_some]
  simp only
  obtain ⟨i,n2,m2,i1,i2⟩:∃ (i:Nat) (n2:Int),((F3 [102,114,111,122,101,110] l j size).bind fun (r35,at36) =>
      cond r35 (
      some (at36,(w64 (n1 + 2)))) (
      some (at36,n1))) = some ((i:Int),n2) /\ k <= i /\ i <= l.length:=by
    rcases kyx C j2 102 [114,111,122,101,110] with ⟨b,hb,e1,e2,e3,e4,e5⟩ | ⟨b,e1,e2,e3,e4,e5⟩
    · rw [e1]; exact ⟨j + 1,_,rfl,by omega,hb⟩
    · rw [e1]; exact ⟨j,_,rfl,j1,j2⟩
  rw [m2,Option.bind_some]
  simp only
  have stru:OkN l size k Nod.sz b3v (A8 (J2 [115,116,114,117,99,116] l (i:Int) size) (fun at50 =>
      A8 (G9 l at50 size) (fun r51 =>
      A8 (P8 n l (w64 (at50 + 1)) size) (fun (r52,at53) =>
      A8 (a0j n l at53 size) (fun (r54,at55) =>
      (app 144 r52 r54).bind fun l56 =>
      some (.ok ((⟨2,r51,n2,(⟨0,[],0,[]⟩:Typ),[],l56,H7 l size k⟩:Nod),at55))) fun (e57,at58) =>
      some (.pan (e57,at58))) fun (at59,at60) =>
      some (.pan ((⟨(⟨20,at59⟩:Flt)⟩:o5),at60))) fun at61 =>
      some (.pan ((⟨(⟨20,at61⟩:Flt)⟩:o5),at50))) fun (at62,at63) =>
      some (.pan ((⟨(⟨20,at62⟩:Flt)⟩:o5),at63))):=by
    rcases kyx C i2 115 [116,114,117,99,116] with ⟨b,hb,e1,e2,e3,e4,e5⟩ | ⟨b,e1,e2,e3,e4,e5⟩
    · rw [e3,H6]
      exact recd i 2 n2 (by decide) (by decide) i1 hb
    · rw [e3]
      exact .inr ⟨i,_,rfl,i1,i2,.inl rfl⟩
  have enu:∀ (j:Nat),k <= j -> j + 1 <= l.length -> OkN l size k Nod.sz b3v (A8 (G9 l ((j + 1:Nat):Int) size) (fun r39 =>
      A8 (P8 n l (w64 (((j + 1:Nat):Int) + 1)) size) (fun (r40,at41) =>
      A8 (a1C n l at41 size) (fun (r42,at43) =>
      (app 144 r40 r42).bind fun l44 =>
      some (.ok ((⟨3,r39,n2,(⟨0,[],0,[]⟩:Typ),[],l44,H7 l size k⟩:Nod),at43))) fun (at45,at46) =>
      some (.pan ((⟨(⟨20,at45⟩:Flt)⟩:o5),at46))) fun (at47,at48) =>
      some (.pan ((⟨(⟨20,at47⟩:Flt)⟩:o5),at48))) fun at49 =>
      some (.pan ((⟨(⟨20,at49⟩:Flt)⟩:o5),((j + 1:Nat):Int)))):=by
    intro j j1 j2
    rcases capx C j2 with ⟨hc,e⟩ | e
    case inr =>
      rw [e]
      exact .inr ⟨j + 1,_,rfl,by omega,j2,.inl rfl⟩
    rw [e,H6,X3 (by omega)]
    rcases b1V C (n:=n) hc (by omega) with ⟨gs,q,p1,p3,p4,p5,_⟩ | ⟨q,p1,p3,p4⟩
    case inr =>
      rw [p1]
      exact .inr ⟨q,_,rfl,by omega,p4,.inl rfl⟩
    have hgs:=X7 gs
    rw [p1,H6]
    simp only
    rcases caseso C (n:=n) p4 (by omega) with ⟨fs,q2,r1,r3,r4,r5,_⟩ | ⟨q2,r1,r3,r4⟩
    case inr =>
      rw [r1]
      exact .inr ⟨q2,_,rfl,by omega,r4,.inl rfl⟩
    have hfs:=X7 fs
    rw [r1,H6]
    simp only
    rw [a1s (by omega) (by omega) (by omega),Option.bind_some]
    exact .inl ⟨_,q2,rfl,by omega,r4,by simp only [szs]; omega,by show (2:Int) <= 3; decide,by show (3:Int) <= 7; decide,fun h=>by have h:(3:Int) = 7:=h; cases h⟩
  cases eqB (IntKind.wrap .i64 ((BitVec.ofInt 64 n2 &&& BitVec.ofInt 64 1).toNat:Nat)) 0
  · simp only [cond_false,Option.bind_some]
    exact stru
  · simp only [cond_true]
    rcases kyx C i2 101 [110,117,109] with ⟨b,hb,e1,e2,e3,e4,e5⟩ | ⟨b,e1,e2,e3,e4,e5⟩
    · rw [e1]
      simp only [Option.bind_some,cond_true]
      exact enu i i1 hb
    · rw [e1]
      simp only [Option.bind_some,cond_false]
      exact stru
end
end Go.Proofs.YtmhiojdkjokccaaGreatDoor
namespace Go.Proofs.YtmhiojdkjokccaaGreatDoor
open Go Go.Vm
theorem idxS_ok {s:Str} {i:Nat} (h:i < s.length):idxS s (i:Int) = some ((s[i]).toNat:Int):=by
 have h1:inR (i:Int) s.length = true:=by simp [inR,h]
 simp [idxS,h1,h]
theorem wrap8 {a:Int} (h1:0 <= a) (h2:a <= 255):IntKind.wrap .u8 a = a:=by
 simp only [IntKind.wrap,IntKind.bits,IntKind.signed]
 simp
 omega
theorem b7s {n:Nat} {s:Str} (hb:b1Q s = true) (hm:a4V s 0 <= 9223372036854775807) (hlen:s.length <= 100):∀ (m i acc:Nat),i <= s.length -> s.length - i < m -> a4V (s.drop i) acc = a4V s 0 -> a2z n s m (acc:Int) (i:Int) = some ((a4V s 0:Nat):Int)
 | 0,i,acc,h1,h2,h3=>by omega
 | m + 1,i,acc,h1,h2,h3=>by
  simp only [a2z]
  rcases Nat.lt_or_ge i s.length with h | h
  ·rw [List.drop_eq_getElem_cons h,a4L] at h3
   have hd:48 <= (s[i]).toNat /\ (s[i]).toNat <= 57:=by
    simp only [b1Q,List.all_eq_true,Bool.and_eq_true,Nat.ble_eq] at hb
    exact hb _ (List.getElem_mem h)
   have hg:=b57 (s.drop (i + 1)) (acc * 10 + ((s[i]).toNat - 48))
   rw [a4M (by omega),cond_true,idxS_ok h,Option.bind_some,a4t (a:=(acc:Int) * 10) (by omega) (by omega),wrap8 (by omega) (by omega),a4t (a:=((s[i]).toNat:Int) - 48) (by omega) (by omega),a4t (a:=(acc:Int) * 10 + _) (by omega) (by omega),X3 (by omega)]
   rw [show (acc:Int) * 10 + (((s[i]).toNat:Int) - 48) = ((acc * 10 + ((s[i]).toNat - 48):Nat):Int) from by omega]
   exact b7s hb hm hlen m (i + 1) _ h (by omega) h3
  ·rw [a3H (by omega),cond_false]
   rw [List.drop_eq_nil_of_le h] at h3
   have h3:acc = a4V s 0:=h3
   rw [h3]
theorem num_ok {n:Nat} {s:Str} (h:digB s = true) (hn:100 <= n):a2d n s = some ((a4V s 0:Nat):Int):=by
 simp only [digB,Bool.and_eq_true,Nat.ble_eq] at h
 obtain ⟨h1,h2,h3,h4⟩:=h
 unfold a2d
 have:=b7s (n:=n) h1 h4 (by omega) n 0 0 (Nat.zero_le _) (by omega) rfl
 have this:a2z n s n 0 0 = some ((a4V s 0:Nat):Int):=this
 rw [this]; rfl
theorem cx_ok (s:Str):Cx (a8z (Sc.a3k s)) (List.length s:Int):=by
 refine ⟨tokL_len s,fun k=>?_,fun k hk=>?_⟩
 ·unfold H7
  cases h:(a8z (Sc.a3k s))[k]? with
  | none=>show (0:Int) <= (List.length s:Int); omega
  | some t =>
   show 0 <= t.at_
   cases hr:Sc.a3k s with
   | done l =>
    rw [hr] at h
    simp only [a8z,List.getElem?_map] at h
    cases hq:l[k]? with
    | none=>rw [hq] at h; cases h
    | some u=>rw [hq] at h; cases h; show (0:Int) <= ((u.a:Nat):Int); omega
   | _=>rw [hr] at h; simp [a8z] at h
 ·unfold isK at hk
  unfold N9
  cases h:(a8z (Sc.a3k s))[k]? with
  | none=>rw [h] at hk; cases hk
  | some t =>
   rw [h] at hk
   have hk:t.kind = 3:=by simpa [eqB] using hk
   cases hr:Sc.a3k s with
   | done l =>
    rw [hr] at h
    simp only [a8z,List.getElem?_map] at h
    cases hq:l[k]? with
    | none=>rw [hq] at h; cases h
    | some u =>
     rw [hq] at h; cases h
     have hb:=Sc.int_digB (Sc.tok_int hr u (List.mem_of_getElem? hq) hk)
     exact ⟨(a4V u.t 0:Nat),by omega,by show atoi u.t = _; unfold atoi; rw [hb],fun n hn=>num_ok hb (by omega)⟩
   | _=>rw [hr] at h; simp [a8z] at h
def vS (x:Nod):Int × Int:=(a1B (x.sz + 1) x).getD (0,0)
def a9U:List Nod -> Int
 | []=>0
 | x :: r=>(vS x).1 + a9U r
def maxD:List Nod -> Int
 | []=>0
 | x :: r=>max (vS x).2 (maxD r)
def SzOk (x:Nod):Prop:=(∀ n,x.sz + 1 <= n -> a1B n x = some (vS x)) /\ 1 <= (vS x).1 /\ (vS x).1 <= x.sz /\ 1 <= (vS x).2 /\ (vS x).2 <= x.sz
theorem b3q:∀ {l:List Nod},(∀ y ∈ l,SzOk y) -> 0 <= a9U l /\ a9U l <= szN l /\ 0 <= maxD l /\ maxD l <= szN l
 | [],h=>by simp [a9U,maxD,szN]
 | x :: r,h=>by
  obtain ⟨_,h1,h2,h3,h4⟩:=h x (List.mem_cons_self ..)
  obtain ⟨g1,g2,g3,g4⟩:=b3q (l:=r) (fun y hy=>h y (List.mem_cons_of_mem _ hy))
  simp only [a9U,maxD,szN]
  omega
theorem b7P:∀ (l:List Nod) (x:Nod),a9U (l ++ [x]) = a9U l + (vS x).1
 | [],x=>by simp [a9U]
 | y :: r,x=>by rw [List.cons_append,a9U,a9U,b7P r x]; omega
theorem b9s {n:Nat} {x:Nod} {Φ:V5} (hlen:szN x.l <= 100000) (hok:∀ y ∈ x.l,SzOk y) (hΦ:∀ y ∈ x.l,Φ.a1B y = some (vS y)) :
  ∀ (m i:Nat) (a b:Int),i <= x.l.length -> x.l.length - i < m -> 0 <= a -> a + szN (x.l.drop i) <= 200000 -> 0 <= b -> a2g n Φ x m a b (i:Int) = some (a + a9U (x.l.drop i),max b (maxD (x.l.drop i)))
 | 0,i,a,b,h1,h2,h3,h4,h5=>by omega
 | m + 1,i,a,b,h1,h2,h3,h4,h5=>by
  have hl:=X7 x.l
  simp only [a2g]
  by_cases hi:i < x.l.length
  ·have hm:=List.getElem_mem hi
   have hs:=b1I hm
   obtain ⟨_,g1,g2,g3,g4⟩:=hok _ hm
   have hd:=List.drop_eq_getElem_cons hi
   rw [hd,szN] at h4
   rw [a4M (by omega),cond_true,a3c hi,Option.bind_some,hΦ _ hm,Option.bind_some]
   rw [a4t (a:=(i:Int) + 1) (by omega) (by omega),a4t (a:=a + _) (by omega) (by omega)]
   have g:=b9s (n:=n) hlen hok hΦ m (i + 1) (a + (vS x.l[i]).1) (max b (vS x.l[i]).2) hi (by omega) (by omega) (by omega) (by omega)
   rw [show ((i:Int) + 1) = ((i + 1:Nat):Int) from rfl,g,hd]
   simp only [a9U,maxD]
   rw [Int.add_assoc,Int.max_assoc]
  ·rw [a3H (by omega),cond_false,List.drop_eq_nil_of_le (by omega)]
   simp only [a9U,maxD]
   rw [Int.add_zero,Int.max_eq_left h5]
theorem sz_val {x:Nod} {n:Nat} (hx:x.sz <= 100000) (hn:x.sz + 1 <= n) (hok:∀ y ∈ x.l,SzOk y):a1B n x = some (1 + a9U x.l,maxD x.l + 1):=by
 have hs:=x.a2q
 have hl:=X7 x.l
 obtain ⟨b1,b2,b3,b4⟩:=b3q hok
 cases n with
 | zero=>omega
 | succ n =>
  show a5b n (V5.fs n) x = _
  unfold a5b
  have g:=b9s (n:=n) (x:=x) (Φ:=V5.fs n) (by omega) hok (fun y hy=>(hok y hy).1 n (by have:=b1I hy; omega)) n 0 1 0 (Nat.zero_le _) (by omega) (by omega) (by rw [List.drop_zero]; omega) (by omega)
  rw [List.drop_zero] at g
  have g:a2g n (V5.fs n) x n 1 0 0 = _:=g
  rw [g,Option.bind_some]
  simp only
  rw [Int.max_eq_right b3,a4t (by omega) (by omega)]
theorem sz_ok:∀ (k:Nat) (x:Nod),x.sz <= k -> x.sz <= 100000 -> SzOk x
 | 0,x,h1,h2=>by have:=x.a2q; omega
 | k + 1,x,h1,h2=>by
  have hs:=x.a2q
  have hok:∀ y ∈ x.l,SzOk y:=fun y hy=>sz_ok k y (by have:=b1I hy; omega) (by have:=b1I hy; omega)
  obtain ⟨b1,b2,b3,b4⟩:=b3q hok
  have hv:vS x = (1 + a9U x.l,maxD x.l + 1):=by unfold vS; rw [sz_val h2 (Nat.le_refl _) hok]; rfl
  refine ⟨fun n hn=>by rw [hv]; exact sz_val h2 hn hok,?_⟩
  rw [hv]
  refine ⟨?_,?_,?_,?_⟩ <;> dsimp only <;> omega
theorem b2O {n:Nat} {l:List Tok} (hl:l.length <= 3000) (hn:20000 <= n) {q:Nat}:∀ (m i:Nat) (o:Int),i <= l.length -> l.length - i < m -> (∃ j:Int,a0c n l m o (i:Int) (q:Int) = some (.brk j)) ∨ (∃ j:Nat,a0c n l m o (i:Int) (q:Int) = some (.out (j:Int)) /\ q <= j /\ j <= l.length)
 | 0,i,o,h1,h2=>by omega
 | m + 1,i,o,h1,h2=>by
  simp only [a0c]
  by_cases hi:i < l.length
  ·rw [a4M (by omega),cond_true,a3c hi,Option.bind_some,b2y _ _ (by simp) (by simp only [List.length_cons,List.length_nil]; omega),X3 (by omega)]
   generalize List.any _ _ = bb
   have up:=fun o'=>b2O hl hn (q:=q) m (i + 1) o' hi (by omega)
   by_cases hq:q <= i
   ·rw [leB_t (by omega)]
    generalize leB o 0 = b1
    generalize eqB (l[i]).kind 9 = b2
    generalize eqB (l[i]).kind 8 = b3
    generalize eqS (l[i]).text [123] = b4
    generalize eqS (l[i]).text [125] = b5
    cases b1 <;> cases b2 <;> cases bb <;> first
     | exact .inr ⟨i,rfl,hq,by omega⟩
     | (cases b3 <;> cases b4 <;> cases b5 <;> exact up _)
   ·rw [leB_f (by omega)]
    generalize eqB (l[i]).kind 8 = b3
    generalize eqS (l[i]).text [123] = b4
    generalize eqS (l[i]).text [125] = b5
    cases b3 <;> cases b4 <;> cases b5 <;> exact up _
  ·rw [a3H (by omega),cond_false]
   exact .inl ⟨_,rfl⟩
theorem b99 {n:Nat} {l:List Tok} {size:Int} (hl:l.length <= 3000) (hn:20000 <= n) {k q:Nat} (hk:k < l.length) (hq:k <= q) (hq2:q <= l.length):∃ j:Nat,a1k n (k:Int) l (q:Int) size = some (j:Int) /\ k < j /\ j <= l.length /\ q <= j:=by
 obtain ⟨r,hr,r1,r2,r3⟩:∃ r:Nat,cond (eqB (q:Int) (k:Int)) (some (w64 ((q:Int) + 1))) (some (q:Int)) = some (r:Int) /\ k < r /\ r <= l.length /\ q <= r:=by
  by_cases h:q = k
  ·rw [a4w (by omega),cond_true,X3 (by omega)]
   exact ⟨q + 1,rfl,by omega,by omega,by omega⟩
  ·rw [a5X (by omega),cond_false]
   exact ⟨q,rfl,by omega,hq2,Nat.le_refl _⟩
 unfold a1k
 rw [hr,Option.bind_some]
 rcases b2O hl hn (q:=r) n k 0 (by omega) (by omega) with ⟨j,h⟩ | ⟨j,h,h1,h2⟩
 ·rw [h,U3]
  exact ⟨l.length,rfl,hk,Nat.le_refl _,hq2⟩
 ·rw [h,W9]
  exact ⟨j,rfl,by omega,h2,by omega⟩
theorem b7h {s:Str}:∀ {L:List Sc.Tok} {k e:Nat},Sc.Lay s k L e -> k <= s.length -> (∀ i,(k:Int) <= H7 (L.map b0s) (List.length s:Int) i /\ H7 (L.map b0s) (List.length s:Int) i <= (List.length s:Int)) /\ ∀ i j,i <= j -> H7 (L.map b0s) (List.length s:Int) i <= H7 (L.map b0s) (List.length s:Int) j
 | [],k,e,h,hk=>by
  have e0:∀ i,H7 (([]:List Sc.Tok).map b0s) (List.length s:Int) i = (List.length s:Int):=fun i=>by simp [H7]
  refine ⟨fun i=>by rw [e0]; omega,fun i j _=>by rw [e0,e0]; omega⟩
 | t :: r,k,e,h,hk=>by
  obtain ⟨h1,h2,h3,h4,h5⟩:=h
  have hg:=Sc.b7M (s:=s) (i:=k)
  obtain ⟨m1,m2⟩:=b7h h5 h4
  have e0:H7 ((t :: r).map b0s) (List.length s:Int) 0 = ((t.a:Nat):Int):=rfl
  have e1:∀ i,H7 ((t :: r).map b0s) (List.length s:Int) (i + 1) = H7 (r.map b0s) (List.length s:Int) i:=fun i=>by simp only [H7,List.map_cons,List.getElem?_cons_succ]
  refine ⟨fun i=>?_,fun i j hij=>?_⟩
  ·cases i with
   | zero=>rw [e0]; omega
   | succ i=>rw [e1]; have:=m1 i; omega
  ·cases i with
   | zero =>
    cases j with
    | zero=>omega
    | succ j=>rw [e0,e1]; have:=m1 j; omega
   | succ i =>
    cases j with
    | zero=>omega
    | succ j=>rw [e1,e1]; exact m2 i j (by omega)
structure Mono (l:List Tok) (size:Int):Prop where
 lo:∀ i,0 <= H7 l size i
 hi:∀ i,H7 l size i <= size
 up:∀ i j,i <= j -> H7 l size i <= H7 l size j
theorem mono_ok (s:Str) (h:a9V (Sc.a3k s) = 0):Mono (a8z (Sc.a3k s)) (List.length s:Int):=by
 have ho:=(Sc.a9W s).1
 generalize Sc.a3k s = r at h ho
 cases r with
 | go x=>exact ho.bd.elim
 | done L =>
  obtain ⟨_,e,hL,_,_⟩:=ho.lay L rfl
  obtain ⟨m1,m2⟩:=b7h hL (Nat.zero_le _)
  exact ⟨fun i=>Int.le_trans (Int.le_refl _) (m1 i).1,fun i=>(m1 i).2,m2⟩
 | err c a=>exact absurd h (ho.nz c a rfl)
def FOk (b:Int) (fs:List Flt):Prop:=(∀ x ∈ fs,(x.code = 2 ∨ (20 <= x.code /\ x.code <= 22)) /\ 0 <= x.at_ /\ x.at_ <= b) /\ fs.Pairwise fun x y=>x.at_ <= y.at_
theorem FOk.up {b b':Int} {fs:List Flt} (h:FOk b fs) (hb:b <= b'):FOk b' fs:=⟨fun x hx=>by have:=h.1 x hx; exact ⟨this.1,this.2.1,by omega⟩,h.2⟩
theorem FOk.add {b b':Int} {fs:List Flt} {f:Flt} (h:FOk b fs) (h1:f.code = 2 ∨ (20 <= f.code /\ f.code <= 22)) (h0:0 <= f.at_) (h2:b <= f.at_) (h3:f.at_ <= b'):FOk b' (fs ++ [f]):=by
 refine ⟨fun x hx=>?_,List.pairwise_append.2 ⟨h.2,List.pairwise_singleton _ _,fun x hx y hy=>?_⟩⟩
 ·rcases List.mem_append.1 hx with hx | hx
  ·have:=h.1 x hx
   exact ⟨this.1,this.2.1,by omega⟩
  ·rw [List.mem_singleton.1 hx]
   exact ⟨h1,h0,h3⟩
 ·rw [List.mem_singleton.1 hy]
  have:=h.1 x hx
  omega
def DOk (x:Nod):Prop:=b3v x /\ SzOk x /\ (vS x).2 <= 39
theorem a7l {n:Nat} {src:Str} {l:List Tok} (C:Cx l (List.length src:Int)) (M:Mono l (List.length src:Int)) (hn:90000 <= n):∀ (m k:Nat) (fs:List Flt) (ds:List Nod) (total:Int),k <= l.length -> l.length - k < m -> fs.length <= 20 -> total = 1 + a9U ds -> total <= 4000 -> (∀ x ∈ ds,DOk x) -> szN ds <= 4 * k -> FOk (H7 l (List.length src:Int) k) fs ->
  ∃ gs es,X8 n src l m total fs ds (k:Int) = some (gs,es) /\ gs.length <= 20 /\ FOk (List.length src:Int) gs
 | 0,k,fs,ds,total,h1,h2,h3,h4,h5,h6,h7,h8=>by omega
 | m + 1,k,fs,ds,total,h1,h2,h3,h4,h5,h6,h7,h8=>by
  have hl:=C.hl
  have hlen:=X7 ds
  have fin:∃ gs es,some (fs,ds) = some (gs,es) /\ gs.length <= 20 /\ FOk (List.length src:Int) gs:=⟨fs,ds,rfl,h3,h8.up (M.hi k)⟩
  rw [X8.eq_2]
  by_cases hk:k < l.length
  case neg =>
   rw [a3H (by omega)]
   exact fin
  rw [a4M (by omega),cond_true,Option.bind_some]
  by_cases hf:fs.length < 20
  case neg =>
   rw [a3H (by omega)]
   exact fin
  rw [a4M (by omega),cond_true,b3f hl h1,Option.bind_some]
  have go:∀ (f:Flt) (q j:Nat),k <= q -> q <= l.length -> k <= j -> j <= q -> 20 <= f.code -> f.code <= 22 -> f.at_ = H7 l (List.length src:Int) j -> ∃ gs es,((app 16 fs ([f]:List Flt)).bind fun l8 =>
   (a1k n (k:Int) l (q:Int) (List.length src:Int)).bind fun at9 =>
   X8 n src l m total l8 ds at9) = some (gs,es) /\ gs.length <= 20 /\ FOk (List.length src:Int) gs:=by
   intro f q j0 q1 q2 a1 a2 c1 c2 e
   obtain ⟨j,j1,j2,j3,j4⟩:=b99 (size:=(List.length src:Int)) hl (n:=n) (by omega) hk q1 q2
   rw [a1s (by omega) (by simp) (by omega),Option.bind_some,j1,Option.bind_some]
   exact a7l C M hn m j (fs ++ [f]) ds total j3 (by omega) (by simp; omega) h4 h5 h6 (by omega) (h8.add (.inr ⟨c1,c2⟩) (by rw [e]; exact M.lo _) (by rw [e]; exact M.up _ _ a1) (by rw [e]; exact M.up _ _ (by omega)))
  have on:∀ (f:Flt) (q:Nat),k < q -> q <= l.length -> f.code = 2 ∨ (20 <= f.code /\ f.code <= 22) -> f.at_ = H7 l (List.length src:Int) k -> ∃ gs es,((app 16 fs ([f]:List Flt)).bind fun l8 =>
   X8 n src l m total l8 ds (q:Int)) = some (gs,es) /\ gs.length <= 20 /\ FOk (List.length src:Int) gs:=by
   intro f q q1 q2 c e
   rw [a1s (by omega) (by simp) (by omega),Option.bind_some]
   exact a7l C M hn m q (fs ++ [f]) ds total q2 (by omega) (by simp; omega) h4 h5 h6 (by omega) (h8.add c (by rw [e]; exact M.lo _) (by rw [e]; exact Int.le_refl _) (by rw [e]; exact M.up _ _ (by omega)))
  unfold a2I a4F
  rcases declo C (n:=n) h1 hn with ⟨x,q,p1,p3,p4,p5,p6⟩ | ⟨q,f,p1,p3,p4,p5⟩
  ·have hx:=x.a2q
   have ok:=sz_ok x.sz x (Nat.le_refl _) (by omega)
   obtain ⟨v1,v2,v3,v4,v5⟩:=ok
   have hb:=b3q (fun y hy=>(h6 y hy).2.1)
   rw [p1,H6]
   simp only [H6,Option.bind_some]
   rw [a4w (a:=(0:Int)) rfl]
   simp only [Bool.and_self,Bool.not_true,cond_false]
   rw [v1 n (by omega),Option.bind_some]
   rw [a4t (a:=1 + (vS x).2) (by omega) (by omega),a4t (a:=total + (vS x).1) (by omega) (by omega)]
   by_cases d1:40 < 1 + (vS x).2
   ·rw [a4M d1,cond_true]
    exact on _ q (by omega) p4 (.inr ⟨(by decide:(20:Int) <= 21),(by decide:(21:Int) <= 22)⟩) rfl
   rw [a3H d1,cond_false]
   by_cases d2:4000 < total + (vS x).1
   ·rw [a4M d2,cond_true]
    exact on _ q (by omega) p4 (.inl rfl) rfl
   rw [a3H d2,cond_false,a1s (by omega) (by simp) (by omega),Option.bind_some]
   refine a7l C M hn m q fs (ds ++ [x]) _ p4 (by omega) h3 (by rw [b7P]; omega) (by omega) (fun y hy=>?_) (by simp only [szs]; omega) (h8.up (M.up _ _ (by omega)))
   rcases List.mem_append.1 hy with h | h
   ·exact h6 y h
   ·rw [List.mem_singleton.1 h]
    exact ⟨p6,⟨v1,v2,v3,v4,v5⟩,by omega⟩
  ·rw [p1,N7]
   simp only [N7,Option.bind_some]
   rcases p5 with h | ⟨j,j1,j2,h⟩
   ·rw [h]
    simp only
    rw [show eqB (20:Int) 0 = false from a5X (by decide)]
    exact go _ q q p3 p4 p3 (Nat.le_refl _) (by decide:(20:Int) <= 20) (by decide:(20:Int) <= 22) rfl
   ·rw [h]
    simp only
    rw [show eqB (22:Int) 0 = false from a5X (by decide)]
    exact go _ q j p3 p4 j1 j2 (by decide:(20:Int) <= 22) (by decide:(22:Int) <= 22) rfl
theorem b2z {n:Nat} {fs:List Flt} {src:Str} (hf:FOk (List.length src:Int) fs) (hlen:fs.length <= 20):∀ (m i:Nat),i <= fs.length -> fs.length - i < m -> a0m n fs src m (i:Int) = some (.brk ())
 | 0,i,h1,h2=>by omega
 | m + 1,i,h1,h2=>by
  rw [a0m.eq_2]
  by_cases hi:i < fs.length
  ·have hg:=b2z (n:=n) hf hlen m (i + 1) hi (by omega)
   obtain ⟨c,b1,b2⟩:=hf.1 _ (List.getElem_mem hi)
   rw [a4M (by omega),cond_true]
   simp only [a3c hi,Option.bind_some]
   have a1:ltB 22 (fs[i]).code = false:=a3H (by omega)
   have a2:ltB (fs[i]).at_ 0 = false:=a3H (by omega)
   have a3:ltB (List.length src:Int) (fs[i]).at_ = false:=a3H (by omega)
   have a4:cond (ltB 0 (i:Int)) ((idx' fs (w64 ((i:Int) - 1))).bind fun x16=>some (ltB (fs[i]).at_ x16.at_)) (some false) = some false:=by
    cases i with
    | zero=>rw [a3H (by omega)]; rfl
    | succ j =>
     have hp:=List.pairwise_iff_getElem.1 hf.2 j (j + 1) (by omega) hi (by omega)
     rw [a4M (by omega),cond_true,a4t (by omega) (by omega),show ((j + 1:Nat):Int) - 1 = ((j:Nat):Int) from by omega,a3c (show j < fs.length by omega),Option.bind_some,a3H (by omega)]
   rw [X3 (by omega)]
   rcases c with c | ⟨c1,c2⟩
   ·have d1:ltB (fs[i]).code 20 = true:=a4M (by omega)
    have d2:eqB (fs[i]).code 2 = true:=a4w c
    simp only [d1,d2,a1,a2,a3,a4,Bool.not_true,cond_true,cond_false,Option.bind_some]
    exact hg
   ·have d1:ltB (fs[i]).code 20 = false:=a3H (by omega)
    simp only [d1,a1,a2,a3,a4,cond_true,cond_false,Option.bind_some]
    exact hg
  ·rw [a3H (by omega),cond_false]
theorem b66 {n:Nat} (hn:90000 <= n) (s:Str):a3G n s = some true:=by
 unfold a3G a8N
 rw [Option.bind_some]
 cases ltB 8200 (List.length s:Int) with
 | true=>rfl
 | false =>
  rw [cond_false]
  have hs:b1A s = some (a8z (Sc.a3k s),a9V (Sc.a3k s),tokA (Sc.a3k s)):=rfl
  have C:=cx_ok s
  unfold a6j a7t
  rw [hs]
  simp only [Option.bind_some]
  rcases tok_code s with ⟨h1,h2⟩ | ⟨h1,h2⟩
  ·have M:=mono_ok s h1
   rw [h1,h2,a4w (a:=(0:Int)) rfl]
   simp only [Bool.and_self,Bool.not_true,cond_false]
   have hl:=C.hl
   obtain ⟨gs,es,g1,g2,g3⟩:=a7l C M hn n 0 [] [] 1 (Nat.zero_le _) (by omega) (by simp) (by simp [a9U]) (by omega) (fun x hx=>by cases hx) (by simp [szN]) ⟨(fun x hx=>by cases hx),List.Pairwise.nil⟩
   have g1:X8 n s (a8z (Sc.a3k s)) n 1 [] [] 0 = some (gs,es):=g1
   rw [g1]
   simp only [Option.bind_some]
   rw [a4w (a:=(1:Int)) rfl,a3H (by omega)]
   have hk:a0m n gs s n 0 = some (.brk ()):=b2z (n:=n) g3 g2 n 0 (Nat.zero_le _) (by omega)
   simp only [Bool.not_true,cond_false,Option.bind_some,hk]
   rfl
  ·rw [a5X h1]
   simp only [Bool.false_and,Bool.not_false,cond_true,Option.bind_some]
   rw [a4w (a:=(0:Int)) rfl,show eqB ((List.length ([(⟨a9V (Sc.a3k s),tokA (Sc.a3k s)⟩:Flt)]:List Flt):Nat):Int) 1 = true from a4w rfl]
   simp only [cond_true]
   have hi:idx' ([(⟨a9V (Sc.a3k s),tokA (Sc.a3k s)⟩:Flt)]:List Flt) 0 = some ⟨a9V (Sc.a3k s),tokA (Sc.a3k s)⟩:=a3c (i:=0) (by simp)
   rw [hi,Option.bind_some]
   simp only
   rw [a4w rfl,a4w rfl]
   rfl
end Go.Proofs.YtmhiojdkjokccaaGreatDoor
namespace Go.Proofs.YtmhiojdkjokccaaGreatDoor
open Go Go.Vm
theorem cell_lt {w:World} {b o:Nat} {x:Value} (h:w.cell? ⟨b,o,none⟩ = some x):b < w.heap.size:=a05 h
theorem b8b (b o:Nat) (x y:Int) (fa fb:Int) (u:Value) (older:List PanicEntry) (w:World) (h0:w.cell? ⟨b,o,none⟩ = some (.int .i64 x)) (h1:w.cell? ⟨b,o + 1,none⟩ = some (.int .i64 y)) (z0:w.frozen? ⟨b,o,none⟩ = false) (z1:w.frozen? ⟨b,o + 1,none⟩ = false) :
  CallsD Tryz.prog 34 #[.pointer (some ⟨b,o,none⟩)] (.panicking ({ v:=.iface 79 (.agg #[.int .i64 fa,.int .i64 fb]),recovered:=false } :: older)) w fun e u' w' =>
   e = .returned (.tuple #[]) /\ u' = .panicking ({ v:=.iface 79 (.agg #[.int .i64 fa,.int .i64 fb]),recovered:=true } :: older) /\
   w' = ((w.setCell ⟨b,o,none⟩ (.int .i64 fa)).setCell ⟨b,o + 1,none⟩ (.int .i64 fb)).alloc (.cells #[.int .i64 fa,.int .i64 fb] 79):=by
 refine callsD_of_wpS Tryz.func34 rfl fun c₀ cs hu=>?_
 apply wpS_seq
 apply wpS_region
 simp [wpOpsS,go_sem,recoverD,hu,Tryz.ntmps34,Exit.thenS]
 refine wpS_of_wp ?_
 go_wp2
 have hta:(Instr.typeAssert (.iface 79 (.agg #[.int .i64 fa,.int .i64 fb])) 20 79 true).run Tryz.prog w = .ok (.tuple #[.agg #[.int .i64 fa,.int .i64 fb],.bool true]) w:=by
  simp only [Instr.typeAssert,Sem.run_bind,run_underlying Tryz.underlying79,Result.andThen_ok]
  simp
 rw [hta]
 simp only [Result.andThen]
 rw [Oper.upon_value]
 have hb:=cell_lt h0
 have G:a0Y w (w.alloc (.cells #[.int .i64 fa,.int .i64 fb] 79)):=a0Y.push w _
 have a0:=(G.cell hb o).trans h0
 have a1:=(G.cell hb (o + 1)).trans h1
 have y0:=(G.frozen hb o).trans z0
 have y1:=(G.frozen hb (o + 1)).trans z1
 unfold cellAt at a0 a1
 have a2:((w.alloc (.cells #[.int .i64 fa,.int .i64 fb] 79)).setCell ⟨b,o,none⟩ (.int .i64 fa)).cell? ⟨b,o + 1,none⟩ = some (.int .i64 y):=(World.cell?_setCell_other _ _ _ _ (by simp)).trans a1
 have y2:((w.alloc (.cells #[.int .i64 fa,.int .i64 fb] 79)).setCell ⟨b,o,none⟩ (.int .i64 fa)).frozen? ⟨b,o + 1,none⟩ = false:=by simp [y1]
 go_wp2
 obtain ⟨a₀,b₀,e₀,d₀,f₀,g₀,h₀⟩:=c₀
 subst hu
 simp [bodyPostS,results,Tryz.results34]
theorem b8a (p:Addr) (w:World) :
  CallsD Tryz.prog 34 #[.pointer (some p)] .returning w fun e u' w'=>e = .returned (.tuple #[]) /\ u' = .returning /\ w' = w:=by
 refine callsD_of_wpS Tryz.func34 rfl fun c₀ cs hu=>?_
 apply wpS_seq
 apply wpS_region
 simp [wpOpsS,go_sem,recoverD,hu,Tryz.ntmps34,Exit.thenS]
 refine wpS_of_wp ?_
 go_wp2
 cases c₀
 simp_all [bodyPostS,results,Tryz.results34]
def gClo:List Nat:=[15,2,3]
def gPre:List V -> Hp -> Option (Nat × List V × Hp):=fun args H=>match args with
 | [.ptr _ _,.func (.func g) a c]=>gd (has g gClo) (some (g,a ++ c,a9o H))
 | _=>none
def b5o:List V -> Hp -> Out -> Option Out:=fun _ _ o=>match o with
 | .ret (.tuple []) H1=>some (.ret (.agg [.int .i64 0,.int .i64 0]) H1)
 | .pan (.iface t (.agg [.int .i64 a,.int .i64 b])) H1=>gd (Nat.beq t 79) (some (.ret (.agg [.int .i64 a,.int .i64 b]) H1))
 | _=>none
theorem b9E {g:Nat} (h:has g gClo = true):∃ fn c,Tryz.prog.funcs[g]? = some fn /\ (fn.name == "runtime.NumGoroutine") = false /\ fn.body = some c:=by
 have:g = 15 ∨ g = 2 ∨ g = 3:=by
  simp only [has,gClo] at h
  split at h
  ·exact .inl (Nat.eq_of_beq_eq_true (by assumption)).symm
  ·split at h
   ·exact .inr (.inl (Nat.eq_of_beq_eq_true (by assumption)).symm)
   ·split at h
    ·exact .inr (.inr (Nat.eq_of_beq_eq_true (by assumption)).symm)
    ·cases h
 rcases this with rfl | rfl | rfl
 ·exact ⟨_,_,Tryz.func15,rfl,rfl⟩
 ·exact ⟨_,_,Tryz.func2,rfl,rfl⟩
 ·exact ⟨_,_,Tryz.func3,rfl,rfl⟩
theorem agg2 {ρ:Rho} {lab:Lab} {w:World} (a b:Int):∀ (i:Nat) (v:V) (x:Value),[V.int .i64 a,.int .i64 b][i]? = some v -> [Value.int .i64 a,.int .i64 b][i]? = some x -> Rel ρ lab w v x
 | 0,_,_,h,g=>by cases h; cases g; exact .int _ _
 | 1,_,_,h,g=>by cases h; cases g; exact .int _ _
 | i + 2,_,_,h,g=>by simp at h
theorem a7f:ViaOk Tryz.prog 14 gPre b5o:=by
 refine ⟨fun args H g' l H' o out hp ho ρ lab w xs hc hS hx hcall=>?_,⟨_,_,Tryz.func14,rfl,rfl⟩⟩
 unfold gPre at hp
 split at hp
 ·rename_i args0 r off g0 a c
  obtain ⟨hg,hp⟩:=P5 hp
  cases hp
  obtain ⟨x1,xr0,rfl,r1,r2⟩:=I4.1 hx
  obtain ⟨x2,xr,rfl,r3,r4⟩:=I4.1 r2
  have:xr = []:=by have:=r4.1; simpa using this
  subst this
  cases r3 with
  | func _ _ _ us ys u1 u2 u3 u4 =>
  obtain ⟨fn,cd,k1,k2,k3⟩:=b9E hg
  have hrun:∀ args w,(callFunc g' args).run Tryz.prog w = .ok (.enter g' args) w:=fun args w=>by
   have h1:fn.name ≠ "runtime.NumGoroutine":=by simpa using k2
   simp [callFunc,k1,h1,k3]
  have G:a0Y w (w.alloc (.cells #[.int .i64 0,.int .i64 0] 27)):=a0Y.push w _
  have hB:w.heap.size < (w.alloc (.cells #[.int .i64 0,.int .i64 0] 27)).heap.size:=by
   show w.heap.size < (w.heap.push _).size
   rw [Array.size_push]; omega
  have hS1:=(hS.mine G hB).a9o
  have hl:L6 ρ lab w (a ++ c) (us ++ ys):=L6.append ⟨u1,u3⟩ ⟨u2,u4⟩
  have hl1:=hl.carry (mineF G)
  have hK:=hcall ρ _ _ (us ++ ys) (b2w _ _ hc) hS1 hl1
  have C0:(w.alloc (.cells #[.int .i64 0,.int .i64 0] 27)).cell? ⟨w.heap.size,0,none⟩ = some (.int .i64 0):=by simp
  have C1:(w.alloc (.cells #[.int .i64 0,.int .i64 0] 27)).cell? ⟨w.heap.size,1,none⟩ = some (.int .i64 0):=by simp
  have Z0:(w.alloc (.cells #[.int .i64 0,.int .i64 0] 27)).frozen? ⟨w.heap.size,0,none⟩ = false:=by simp
  have Z1:(w.alloc (.cells #[.int .i64 0,.int .i64 0] 27)).frozen? ⟨w.heap.size,1,none⟩ = false:=by simp
  have hmf:∀ (fn:Fn) (first cap:Array Value) (w:World),(Instr.makeFunc fn first cap).run Tryz.prog w = .ok (.func fn first cap) w:=fun _ _ _ _=>rfl
  clear hcall hx r1 r2 r4 u3 u4 hl hl1 hS1
  generalize hw1:w.alloc (.cells #[.int .i64 0,.int .i64 0] 27) = w1 at *
  go_enter_defers Tryz.func14,Tryz.ntmps14
  go_wp2
  refine hK.mono ?_
  intro e w2 hP
  unfold b5o at ho
  split at ho
  ·rename_i H1
   cases ho
   cases e with
   | returned x =>
    obtain ⟨ρ',lab',s1,s2,s3,s4,s5,s6⟩:=hP
    have hx0:x = .tuple #[]:=by
     cases s4 with
     | tuple _ zs h1 h2 =>
      have:zs = []:=by simpa using h1
      subst this; rfl
    subst hx0
    obtain ⟨d0,e0⟩:=a98 s2 hB 0
    obtain ⟨d1,e1⟩:=a98 s2 hB 1
    have d0:=d0.trans C0
    have d1:=d1.trans C1
    have E:=Ext.left hS G hB s2 (Wrote.refl _ w2)
    have S:=s1.left s2 (Wrote.refl _ w2)
    unfold cellAt at d0 d1
    go_wp2
    refine leaves_cons (f:=34) (args:=#[.pointer (some ⟨w.heap.size,0,none⟩)]) (by simp) (by simp [go_sem]) ?_
    refine (b8a ⟨w.heap.size,0,none⟩ _).mono ?_
    rintro e u' w'' ⟨rfl,rfl,rfl⟩
    simp [Leaves,settle,results,Tryz.results14,go_sem,d0,d1]
    rw [a9c] at s3 s6
    exact ⟨ρ',_,S,E,s3,.agg _ [.int .i64 0,.int .i64 0] rfl (agg2 _ _),s5,s6⟩
   | panicked ch=>exact hP.elim
   | outgrown=>exact hP.elim
  ·rename_i t fa fb H1
   obtain ⟨ht,ho⟩:=P5 ho
   cases ho
   have ht:=Nat.eq_of_beq_eq_true ht
   subst ht
   cases e with
   | returned x=>exact hP.elim
   | panicked ch =>
    obtain ⟨x,rfl,ρ',lab',s1,s2,s3,s4,s5,s6⟩:=hP
    obtain ⟨xv,rfl,s7⟩:∃ xv,x = .iface 79 xv /\ xv = .agg #[.int .i64 fa,.int .i64 fb]:=by
     cases s4 with
     | iface _ _ xv h =>
      refine ⟨xv,rfl,?_⟩
      cases h with
      | agg _ zs h1 h2 =>
       match zs,h1,h2 with
       | [z0,z1],_,h2 =>
        have q0:=h2 0 _ z0 rfl rfl
        have q1:=h2 1 _ z1 rfl rfl
        cases q0; cases q1; rfl
    subst s7
    obtain ⟨d0,e0⟩:=a98 s2 hB 0
    obtain ⟨d1,e1⟩:=a98 s2 hB 1
    have d0:=d0.trans C0
    have d1:=d1.trans C1
    have e0:=e0.trans Z0
    have e1:=e1.trans Z1
    unfold cellAt at d0 d1
    have hsz:w.heap.size < w2.heap.size:=Nat.lt_of_lt_of_le hB s2.size
    have hW:Wrote w.heap.size w2 (((w2.setCell ⟨w.heap.size,0,none⟩ (.int .i64 fa)).setCell ⟨w.heap.size,0 + 1,none⟩ (.int .i64 fb)).alloc (.cells #[.int .i64 fa,.int .i64 fb] 79)):=by
     refine ⟨?_,rfl,rfl,rfl,fun b hb hn=>?_⟩
     ·refine Nat.le_trans ?_ (a0Y.push _ _).size
      rw [World.size_setCell,World.size_setCell]
      exact Nat.le_refl _
     ·refine ((a0Y.push _ _).blk b (by rw [World.size_setCell,World.size_setCell]; exact hb)).trans ?_
      rw [heap_setCell_other _ _ _ _ hn,heap_setCell_other _ _ _ _ hn]
    have c0:(w2.setCell ⟨w.heap.size,0,none⟩ (.int .i64 fa)).cell? ⟨w.heap.size,0 + 1,none⟩ = some (.int .i64 0):=(World.cell?_setCell_other _ _ _ _ (by simp)).trans d1
    have f1:((w2.setCell ⟨w.heap.size,0,none⟩ (.int .i64 fa)).setCell ⟨w.heap.size,0 + 1,none⟩ (.int .i64 fb)).cell? ⟨w.heap.size,0 + 1,none⟩ = some (.int .i64 fb):=World.cell?_setCell_same _ _ _ c0
    have f0:((w2.setCell ⟨w.heap.size,0,none⟩ (.int .i64 fa)).setCell ⟨w.heap.size,0 + 1,none⟩ (.int .i64 fb)).cell? ⟨w.heap.size,0,none⟩ = some (.int .i64 fa):=(World.cell?_setCell_other _ _ _ _ (by simp)).trans (World.cell?_setCell_same _ _ _ d0)
    have hsz2:w.heap.size < ((w2.setCell ⟨w.heap.size,0,none⟩ (.int .i64 fa)).setCell ⟨w.heap.size,0 + 1,none⟩ (.int .i64 fb)).heap.size:=by rw [World.size_setCell,World.size_setCell]; exact hsz
    have GT:a0Y _ (((w2.setCell ⟨w.heap.size,0,none⟩ (.int .i64 fa)).setCell ⟨w.heap.size,0 + 1,none⟩ (.int .i64 fb)).alloc (.cells #[.int .i64 fa,.int .i64 fb] 79)):=a0Y.push _ _
    have f0:=(GT.cell hsz2 0).trans f0
    have f1:=(GT.cell hsz2 (0 + 1)).trans f1
    unfold cellAt at f0 f1
    simp only [Nat.zero_add] at f0 f1
    have E:=Ext.left hS G hB s2 hW
    have S:=s1.left s2 hW
    go_wp2
    refine leaves_cons (f:=34) (args:=#[.pointer (some ⟨w.heap.size,0,none⟩)]) (by simp) (by simp [go_sem]) ?_
    refine (b8b w.heap.size 0 0 0 fa fb .nilIface [] w2 d0 d1 e0 e1).mono ?_
    rintro e u' w'' ⟨rfl,rfl,rfl⟩
    simp [Leaves,settle,results,Tryz.results14,go_sem,f0,f1]
    rw [a9c] at s3 s6
    exact ⟨ρ',_,S,E,s3,.agg _ [.int .i64 fa,.int .i64 fb] rfl (agg2 _ _),s5,s6⟩
   | outgrown=>exact hP.elim
  ·cases ho
 ·cases hp
end Go.Proofs.YtmhiojdkjokccaaGreatDoor
namespace Go.Proofs.YtmhiojdkjokccaaGreatDoor
open Go Go.Vm
def T:List (Nat × Ty):=[
 (1,⟨.func,1,8,[.nilFunc]⟩),
 (3,⟨.int .i64,1,8,[.i 0]⟩),
 (4,⟨.bool,1,1,[.bool false]⟩),
 (9,⟨.string,1,16,[.str []]⟩),
 (24,⟨.slice 77,1,24,[.slice .nil 0 []]⟩),
 (25,⟨.int .i64,1,8,[.i 0]⟩),
 (27,⟨.struct [(25,0),(3,1)],2,16,[.i 0,.i 0]⟩),
 (30,⟨.slice 32,1,24,[.slice .nil 0 []]⟩),
 (32,⟨.struct [(3,0),(9,1),(3,2),(30,3)],4,56,[.i 0,.str [],.i 0,.slice .nil 0 []]⟩),
 (33,⟨.slice 35,1,24,[.slice .nil 0 []]⟩),
 (35,⟨.struct [(3,0),(9,1),(3,2),(32,3),(30,7),(33,8),(3,9)],10,144,[.i 0,.str [],.i 0,.i 0,.str [],.i 0,.slice .nil 0 [],.slice .nil 0 [],.slice .nil 0 [],.i 0]⟩),
 (36,⟨.slice 27,1,24,[.slice .nil 0 []]⟩),
 (48,⟨.ptr 52,1,8,[.nilptr]⟩),
 (52,⟨.struct [(24,0),(3,1),(3,2)],3,40,[.slice .nil 0 [],.i 0,.i 0]⟩),
 (62,⟨.slice 9,1,24,[.slice .nil 0 []]⟩),
 (77,⟨.struct [(3,0),(9,1),(3,2),(3,3)],4,40,[.i 0,.str [],.i 0,.i 0]⟩),
 (79,⟨.struct [(27,0)],2,16,[.i 0,.i 0]⟩),
 (115,⟨.slice 122,1,24,[.slice .nil 0 []]⟩),
 (122,⟨.struct [(62,0),(4,1)],2,32,[.slice .nil 0 [],.bool false]⟩)]
def keep:Nat -> Nat -> List Nat
 | 3,10=>[0,6,7]
 | 3,100015=>[]
 | 3,130009=>[0,6,49]
 | 3,130014=>[0,6,7,113]
 | 4,8=>[3,7]
 | 4,100014=>[]
 | 4,130007=>[3,27]
 | 4,130013=>[3,7,59]
 | 8,7=>[2,4,6,7,8]
 | 8,100022=>[2,6,8]
 | 8,190041=>[2,4,6,7,8,41]
 | 9,3=>[2,3,9,10,11]
 | 9,100010=>[2,3]
 | 16,100017=>[0,2,3]
 | 16,100019=>[0,2,3]
 | 16,130020=>[0,2,3,56]
 | 17,4=>[0,4,5]
 | 17,100003=>[0,1]
 | 17,100006=>[0,4,5]
 | 17,100014=>[0]
 | 17,130009=>[0,4,5,6,57]
 | 17,130011=>[0,4,5,6,69]
 | 17,130013=>[0,4,5,79]
 | 36,5=>[0,2,3]
 | 36,12=>[0,2,3]
 | 36,100013=>[0,2,3]
 | 36,100017=>[0,2,3]
 | 37,8=>[0,2,3]
 | 37,16=>[0,2,3]
 | 37,100017=>[0,2,3]
 | 37,100020=>[0,2,3]
 | 42,4=>[0,3]
 | 42,100010=>[0,3]
 | 43,3=>[0,3]
 | 43,100009=>[0,3,4]
 | 43,100014=>[0,3]
 | 43,100018=>[0,3]
 | 43,190013=>[0,3,13]
 | 44,3=>[0,3]
 | 44,11=>[0,3,4]
 | 44,100008=>[0,3,4]
 | 44,100014=>[0,3,4]
 | 44,100015=>[0,3,4]
 | 44,100017=>[3]
 | 66,4=>[0,3]
 | 67,100013=>[0,2,3]
 | 68,8=>[0,2,3]
 | 68,100011=>[0,2,3]
 | 68,100012=>[0,2,3]
 | 69,4=>[0,3]
 | 69,100013=>[0,3,4]
 | 75,2=>[0,1,7,8]
 | 75,100008=>[]
 | 87,5=>[0,3]
 | 87,100011=>[0,3,4]
 | 87,100016=>[0,3]
 | 89,5=>[0,1,4,5,6]
 | 89,9=>[0,1,4,7]
 | 89,100008=>[0,1,4,5,6]
 | 89,100009=>[0,1,4,5,6]
 | 89,100013=>[4,7]
 | 89,190038=>[0,1,4,7,38]
 | 90,2=>[0,3]
 | 90,100005=>[3]
 | 94,100016=>[0,1,4,5]
 | 94,130004=>[0,1,4,5,6]
 | 94,130006=>[0,1,4,5,16]
 | 95,100005=>[0,2,3]
 | 95,100027=>[2,5]
 | 95,130008=>[0,2,23,24]
 | 100,100006=>[0,2,3]
 | 100,100010=>[0,2,3,4]
 | 100,130011=>[0,2,3,30]
 | 101,100011=>[2,3,4]
 | 101,100012=>[2,3]
 | 102,5=>[0,2,3]
 | 102,100012=>[0,2,3]
 | 102,100017=>[0,2,3]
 | 105,1=>[1]
 | 105,100004=>[1]
 | 112,6=>[0,2,3]
 | 112,100009=>[0,2,3]
 | 112,100025=>[2,3]
 | 113,100007=>[0,2,3]
 | 115,3=>[0,2,6,7,14,15]
 | 115,6=>[0,2,6,7,9,14,15]
 | 115,100014=>[0,2,6,7,14,15]
 | 115,100015=>[6,7]
 | 115,190065=>[0,2,6,7,9,14,15,65]
 | 122,4=>[0,2,3,4]
 | 122,100010=>[0,2,4,5]
 | 122,100017=>[0,2,4]
 | 127,27=>[0,2,3]
 | 127,100030=>[0,2,3]
 | 127,100037=>[2,3]
 | 128,5=>[0,3]
 | 128,100011=>[0,3]
 | 128,100012=>[0,3]
 | 135,5=>[0,2,3,4]
 | 137,3=>[0,2,3]
 | 137,100008=>[2,3]
 | _,_=>[]
def cut:Nat -> Nat -> Bool
 | 3,15=>true
 | 3,30009=>true
 | 3,30014=>true
 | 4,14=>true
 | 4,30007=>true
 | 4,30013=>true
 | 8,22=>true
 | 8,90041=>true
 | 9,10=>true
 | 16,17=>true
 | 16,19=>true
 | 16,30020=>true
 | 17,3=>true
 | 17,6=>true
 | 17,14=>true
 | 17,30009=>true
 | 17,30011=>true
 | 17,30013=>true
 | 36,13=>true
 | 36,17=>true
 | 37,17=>true
 | 37,20=>true
 | 42,10=>true
 | 43,9=>true
 | 43,14=>true
 | 43,18=>true
 | 43,90013=>true
 | 44,8=>true
 | 44,14=>true
 | 44,15=>true
 | 44,17=>true
 | 67,13=>true
 | 68,11=>true
 | 68,12=>true
 | 69,13=>true
 | 75,8=>true
 | 87,11=>true
 | 87,16=>true
 | 89,8=>true
 | 89,9=>true
 | 89,13=>true
 | 89,90038=>true
 | 90,5=>true
 | 94,16=>true
 | 94,30004=>true
 | 94,30006=>true
 | 95,5=>true
 | 95,27=>true
 | 95,30008=>true
 | 100,6=>true
 | 100,10=>true
 | 100,30011=>true
 | 101,11=>true
 | 101,12=>true
 | 102,12=>true
 | 102,17=>true
 | 105,4=>true
 | 112,9=>true
 | 112,25=>true
 | 113,7=>true
 | 115,14=>true
 | 115,15=>true
 | 115,90065=>true
 | 122,10=>true
 | 122,17=>true
 | 127,30=>true
 | 127,37=>true
 | 128,11=>true
 | 128,12=>true
 | 137,8=>true
 | _,_=>false
def b1n:List Nat:=[]
def b0k:Nat -> Nat -> Bool
 | 39,7=>true
 | 39,8=>true
 | 42,0=>true
 | 67,8=>true
 | 69,0=>true
 | 87,0=>true
 | 103,8=>true
 | f,_=>has f b1n
def a5R:Nat -> Nat -> Bool
 | f,_=>has f b1n
def slk:Nat -> Nat -> List (Nat × Nat)
 | 89,9=>[(7,3)]
 | 115,6=>[(7,6),(7,7),(7,8)]
 | 115,100014=>[(7,6),(7,7),(7,8)]
 | 122,4=>[(4,6),(4,7)]
 | 122,100017=>[(4,8)]
 | 127,100037=>[(3,8)]
 | 137,3=>[(3,6)]
 | _,_=>[]
def sep:Nat -> Nat -> Option (List Nat × List Nat)
 | 8,3=>some ([0,1,2,3,4],[5,1000002])
 | 12,2=>some ([0,1,2,3,5,4,6,7],[5])
 | 16,12=>some ([0,1,2,3,4,5,6],[30])
 | 16,22=>some ([0,1,2,3,4,5,6],[64])
 | 16,27=>some ([0,1,2,3,4,5,6],[79])
 | 35,3=>some ([0,1,2,3,4,5,6,7,8,9,10,11,12,13],[32,28,24])
 | 38,3=>some ([0,1,2,3,4,5,6,7],[7])
 | 44,10=>some ([0,1,2,3,4,5,6,7],[22])
 | 44,12=>some ([0,1,2,3,4,5,6,7],[31])
 | 67,5=>some ([0,1,2,3,4,5,6],[15])
 | 67,13=>some ([0,1,2,3,4,5,6],[41])
 | 71,3=>some ([0,1,2,3,4,5,6,7,8,9,10,11],[20,18,14])
 | 89,11=>some ([0,2,3,1,4,5],[7])
 | 95,18=>some ([0,1,2,3,4,5,6,7],[56])
 | 95,37=>some ([0,1,2,3,4,5,6,7],[112])
 | 95,45=>some ([0,1,2,3,4,5,6,7],[144])
 | 101,4=>some ([0,1,2,3,4,5,6,7],[13])
 | 102,9=>some ([0,1,2,3,4,5,6,7],[32])
 | 102,14=>some ([0,1,2,3,4,5,6,7],[54])
 | 112,5=>some ([0,1,2,3,4,5,6,7],[14])
 | 112,7=>some ([0,1,2,3,4,5,6,7],[23])
 | 115,7=>some ([0,1,2,3,4,5,6,7,8,9,10,11,12,13,14,15],[77,75,72,68])
 | 115,9=>some ([0,1,3,4,5,6,2,7,8,9],[])
 | 122,5=>some ([0,2,3,4,5,1,6,7,8],[4,17])
 | 122,8=>some ([0,1,2,3,4,5,6],[25])
 | 122,12=>some ([0,1,2,3,4,5,6,7],[38,36])
 | 122,14=>some ([0,1,2,3,4,5,6],[48])
 | 127,26=>some ([0,1,2,3,4,5,6,7],[77])
 | 127,28=>some ([0,1,2,3,4,5,6,7],[86])
 | 135,5=>some ([0,1,2,3,4,5,6,7],[16])
 | _,_=>none
def mask:Nat -> Nat -> List Nat
 | 8,3=>[0,0,2,1,15]
 | 12,2=>[0,0,2,7,15,0,31,127]
 | 16,12=>[0,1,0,4,15,31,63]
 | 16,22=>[0,1,0,4,15,31,63]
 | 16,27=>[0,1,0,4,15,31,63]
 | 35,3=>[0,1,3,7,0,16,48,112,0,496,1023,2047,0,8191]
 | 38,3=>[0,1,0,4,12,31,63,127]
 | 44,10=>[0,1,0,4,12,31,63,127]
 | 44,12=>[0,1,0,4,12,31,63,127]
 | 67,5=>[0,1,0,4,15,31,63]
 | 67,13=>[0,1,0,4,15,31,63]
 | 71,3=>[0,1,3,7,0,16,48,112,255,511,0,2047]
 | 89,11=>[0,1,0,4,15,31]
 | 95,18=>[0,1,0,4,12,31,63,127]
 | 95,37=>[0,1,0,4,12,31,63,127]
 | 95,45=>[0,1,0,4,12,31,63,127]
 | 101,4=>[0,1,0,4,12,31,63,127]
 | 102,9=>[0,1,0,4,12,31,63,127]
 | 102,14=>[0,1,0,4,12,31,63,127]
 | 112,5=>[0,1,0,4,12,31,63,127]
 | 112,7=>[0,1,0,4,12,31,63,127]
 | 115,7=>[0,1,3,7,0,16,48,112,255,511,1023,0,2048,8191,0,32767]
 | 115,9=>[0,0,2,0,0,16,56,127,0,511]
 | 122,5=>[0,1,0,4,0,16,63,0,255]
 | 122,8=>[0,1,0,4,15,31,63]
 | 122,12=>[0,1,0,4,0,16,63,127]
 | 122,14=>[0,1,0,4,15,31,63]
 | 127,26=>[0,1,0,4,12,31,63,127]
 | 127,28=>[0,1,0,4,12,31,63,127]
 | 135,5=>[0,1,0,4,12,31,63,127]
 | _,_=>[]
def okL:List Nat:=[3,4,5,8,9,12,13,15,16,17,35,36,37,38,39,40,41,42,43,44,45,46,65,66,67,68,69,70,71,72,73,74,75,87,88,89,90,94,95,100,101,102,103,104,105,112,113,114,115,121,122,127,128,135,136,137]
def b7p:List Nat:=[13]
def b0U:List Nat:=[3,4,5,6,7,8,9,46,75,94,105,114,126]
def b2U:List Nat:=[]
def tagL:List Nat:=[39,42,67,69,87,103] ++ b1n
def argL:List Nat:=[] ++ b1n
theorem tys:tysB Tryz.prog T = true:=by kernel_rfl
theorem mixed:Tryz.prog.follows .mixedOrders = true:=by kernel_rfl
def b3O:Nat -> Option Hand
 | 56=>some (.plain b5u)
 | 126=>some (.plain b6R)
 | 14=>some (.via gPre b5o)
 | _=>none
noncomputable def a9F:Env:={ P:=Tryz.prog,T:=T,keep:=keep,byref:=fun _ _=>none,meth:=fun _ _=>none,tags:=fun g=>has g tagL,argTags:=fun g=>has g argL,quiet:=fun g=>has g b0U,loose:=fun _=>false,ok:=fun g=>has g okL,cut:=cut,b0k:=b0k,a5R:=a5R,sep:=sep,mask:=mask,look:=fun g=>has g b7p,frz:=fun g=>has g b2U,slk:=slk,full:=true,intr:=b3O }
theorem b8d:b0K a9F okL = true:=by kernel_rfl
theorem b6o:a7B a9F:=by
 intro _ _ _ h
 cases h
theorem envOk0:a7a a9F:=⟨b6o,b0g tys,mixed,a7W (fun _ h=>h) b8d,(fun g h hg=>by simp only [a9F,b3O] at hg; split at hg <;> first | (cases hg; done) | (cases hg; exact b3h) | (cases hg; exact b48)),(fun g pre post hg=>by simp only [a9F,b3O] at hg; split at hg <;> first | (cases hg; done) | (cases hg; exact a7f))⟩
end Go.Proofs.YtmhiojdkjokccaaGreatDoor
namespace Go.Proofs.YtmhiojdkjokccaaGreatDoor.Aw
open Go Go.Vm
structure Flt where
 code:Int
 at_:Int
def c1Flt (x:Flt):List V:=[.i x.code,.i x.at_]
def a6x:List Flt -> List V
 | []=>[]
 | x :: r=>.i x.code :: .i x.at_ :: a6x r
theorem a3S:a1S 2 c1Flt a6x:=⟨fun _=>rfl,rfl,fun _ _=>rfl⟩
structure Typ where
 kind:Int
 name:Str
 n:Int
 args:List Typ
mutual
def Typ.sub:Typ -> List V
 | ⟨_,_,_,a3⟩=>p8 a3
def p8:List Typ -> List V
 | []=>[]
 | x :: r=>.i x.kind :: .str x.name :: .i x.n :: .slice .sealed (List.length x.args) (x.sub) :: p8 r
end
def c1Typ (x:Typ):List V:=[.i x.kind,.str x.name,.i x.n,.sl p8 x.args]
theorem a9E:a1S 4 c1Typ p8:=⟨fun _=>rfl,rfl,fun x r=>by cases x; rfl⟩
structure Nod where
 op:Int
 s:Str
 n:Int
 t:Typ
 ts:List Typ
 l:List Nod
 at_:Int
mutual
def Nod.sub:Nod -> List V
 | ⟨_,_,_,_,_,a5,_⟩=>F6 a5
def F6:List Nod -> List V
 | []=>[]
 | x :: r=>.i x.op :: .str x.s :: .i x.n :: .i x.t.kind :: .str x.t.name :: .i x.t.n :: .sl p8 x.t.args :: .sl p8 x.ts :: .slice .sealed (List.length x.l) (x.sub) :: .i x.at_ :: F6 r
end
def a9m (x:Nod):List V:=(c0 x.op x.s x.n x.t.kind x.t.name x.t.n (.sl p8 x.t.args) (.sl p8 x.ts) (.sl F6 x.l) x.at_)
theorem Q6:a1S 10 a9m F6:=⟨fun _=>rfl,rfl,fun x r=>by cases x; rfl⟩
end Go.Proofs.YtmhiojdkjokccaaGreatDoor.Aw
namespace Go.Proofs.YtmhiojdkjokccaaGreatDoor.Aw
open Go Go.Vm
def T:List (Nat × Ty):=[
 (1,⟨.func,1,8,[.nilFunc]⟩),
 (2,⟨.int .i64,1,8,[.i 0]⟩),
 (3,⟨.int .i64,1,8,[.i 0]⟩),
 (4,⟨.bool,1,1,[.bool false]⟩),
 (5,⟨.int .u8,1,1,[.int .u8 0]⟩),
 (9,⟨.string,1,16,[.str []]⟩),
 (24,⟨.slice 77,1,24,[.slice .nil 0 []]⟩),
 (25,⟨.int .i64,1,8,[.i 0]⟩),
 (27,⟨.struct [(25,0),(3,1)],2,16,[.i 0,.i 0]⟩),
 (30,⟨.slice 32,1,24,[.slice .nil 0 []]⟩),
 (32,⟨.struct [(3,0),(9,1),(3,2),(30,3)],4,56,[.i 0,.str [],.i 0,.slice .nil 0 []]⟩),
 (33,⟨.slice 35,1,24,[.slice .nil 0 []]⟩),
 (35,⟨.struct [(3,0),(9,1),(3,2),(32,3),(30,7),(33,8),(3,9)],10,144,[.i 0,.str [],.i 0,.i 0,.str [],.i 0,.slice .nil 0 [],.slice .nil 0 [],.slice .nil 0 [],.i 0]⟩),
 (36,⟨.slice 27,1,24,[.slice .nil 0 []]⟩),
 (42,⟨.ptr 46,1,8,[.nilptr]⟩),
 (44,⟨.struct [(9,0),(3,1)],2,24,[.str [],.i 0]⟩),
 (46,⟨.struct [(44,0),(24,2),(27,3)],5,64,[.str [],.i 0,.slice .nil 0 [],.i 0,.i 0]⟩),
 (48,⟨.ptr 52,1,8,[.nilptr]⟩),
 (52,⟨.struct [(24,0),(3,1),(3,2)],3,40,[.slice .nil 0 [],.i 0,.i 0]⟩),
 (58,⟨.slice 5,1,24,[.slice .nil 0 []]⟩),
 (61,⟨.ptr 64,1,8,[.nilptr]⟩),
 (62,⟨.slice 9,1,24,[.slice .nil 0 []]⟩),
 (64,⟨.struct [(62,0)],1,24,[.slice .nil 0 []]⟩),
 (65,⟨.func,1,8,[.nilFunc]⟩),
 (67,⟨.iface,1,16,[.nilIface]⟩),
 (74,⟨.func,1,8,[.nilFunc]⟩),
 (77,⟨.struct [(3,0),(9,1),(3,2),(3,3)],4,40,[.i 0,.str [],.i 0,.i 0]⟩),
 (79,⟨.struct [(27,0)],2,16,[.i 0,.i 0]⟩),
 (88,⟨.func,1,8,[.nilFunc]⟩),
 (91,⟨.ptr 44,1,8,[.nilptr]⟩),
 (94,⟨.array 32 9,32,512,[.str [],.str [],.str [],.str [],.str [],.str [],.str [],.str [],.str [],.str [],.str [],.str [],.str [],.str [],.str [],.str [],.str [],.str [],.str [],.str [],.str [],.str [],.str [],.str [],.str [],.str [],.str [],.str [],.str [],.str [],.str [],.str []]⟩),
 (96,⟨.array 27 9,27,432,[.str [],.str [],.str [],.str [],.str [],.str [],.str [],.str [],.str [],.str [],.str [],.str [],.str [],.str [],.str [],.str [],.str [],.str [],.str [],.str [],.str [],.str [],.str [],.str [],.str [],.str [],.str []]⟩),
 (102,⟨.slice 3,1,24,[.slice .nil 0 []]⟩),
 (115,⟨.slice 122,1,24,[.slice .nil 0 []]⟩),
 (122,⟨.struct [(62,0),(4,1)],2,32,[.slice .nil 0 [],.bool false]⟩),
 (144,⟨.array 24 5,24,24,[.int .u8 0,.int .u8 0,.int .u8 0,.int .u8 0,.int .u8 0,.int .u8 0,.int .u8 0,.int .u8 0,.int .u8 0,.int .u8 0,.int .u8 0,.int .u8 0,.int .u8 0,.int .u8 0,.int .u8 0,.int .u8 0,.int .u8 0,.int .u8 0,.int .u8 0,.int .u8 0,.int .u8 0,.int .u8 0,.int .u8 0,.int .u8 0]⟩),
 (145,⟨.int .u64,1,8,[.int .u64 0]⟩),
 (165,⟨.int .i64,1,8,[.i 0]⟩)]
def keep:Nat -> Nat -> List Nat
 | 8,7=>[2,4,6,7,8]
 | 9,3=>[2,3,9,10,11]
 | 11,2=>[0,1,2,7]
 | 18,13=>[0,48,49,50]
 | 18,21=>[0,69,70,71]
 | 18,37=>[0,118,119,120]
 | 23,0=>[0]
 | 32,3=>[0,3,4]
 | 42,4=>[0,3]
 | 49,3=>[1,5,11,12,13]
 | 49,6=>[1,5,7,11,12,13,17,18,19]
 | 52,5=>[0,3,23,24,25]
 | 52,15=>[0,52,53,54]
 | 59,2=>[0,1,5]
 | 63,2=>[0,1,5,6]
 | 68,8=>[0,2,3]
 | 69,4=>[0,3]
 | 75,2=>[0,1,7,8]
 | 76,1=>[0,2,8,9,10]
 | 79,3=>[0,10,11,12]
 | 87,5=>[0,3]
 | 89,5=>[0,1,4,5,6]
 | 89,9=>[0,1,4,7]
 | 90,2=>[0,3]
 | 91,40=>[0,140,141,142]
 | 115,3=>[0,2,6,7,14,15]
 | 115,6=>[0,2,6,7,9,14,15]
 | 122,4=>[0,2,3,4]
 | 127,27=>[0,2,3]
 | 133,10=>[5,6,47,48,49]
 | _,_=>[]
def cut:Nat -> Nat -> Bool
 | _,_=>false
def b1n:List Nat:=[7,9,11,12,13,15,16,18,20,23,24,26,29,31,32,33,35,38,39,40,41,42,45,47,48,49,52,53,54,58,59,62,63,64,65,67,68,69,70,71,72,73,76,79,80,81,82,87,88,89,90,91,92,94,95,96,104,106,113,114,115,121,122,126,127,133]
def b0k:Nat -> Nat -> Bool
 | f,_=>has f b1n
def a5R:Nat -> Nat -> Bool
 | f,_=>has f b1n
def slk:Nat -> Nat -> List (Nat × Nat)
 | _,_=>[]
def sep:Nat -> Nat -> Option (List Nat × List Nat)
 | 8,3=>some ([0,1,2,3,4],[5,1000002])
 | 12,2=>some ([0,1,2,3,5,4,6,7],[5])
 | 16,12=>some ([0,1,2,3,4,5,6],[30])
 | 16,22=>some ([0,1,2,3,4,5,6],[64])
 | 16,27=>some ([0,1,2,3,4,5,6],[79])
 | 35,3=>some ([0,1,2,3,4,5,6,7,8,9,10,11,12,13],[32,28,24])
 | 38,3=>some ([0,1,2,3,4,5,6,7],[7])
 | 67,5=>some ([0,1,2,3,4,5,6],[15])
 | 67,13=>some ([0,1,2,3,4,5,6],[41])
 | 71,3=>some ([0,1,2,3,4,5,6,7,8,9,10,11],[20,18,14])
 | 89,11=>some ([0,2,3,1,4,5],[7])
 | 95,18=>some ([0,1,2,3,4,5,6,7],[56])
 | 95,37=>some ([0,1,2,3,4,5,6,7],[112])
 | 95,45=>some ([0,1,2,3,4,5,6,7],[144])
 | 115,7=>some ([0,1,2,3,4,5,6,7,8,9,10,11,12,13,14,15],[77,75,72,68])
 | 115,9=>some ([0,1,3,4,5,6,2,7,8,9],[])
 | 122,5=>some ([0,2,3,4,5,1,6,7,8],[4,17])
 | 122,8=>some ([0,1,2,3,4,5,6],[25])
 | 122,12=>some ([0,1,2,3,4,5,6,7],[38,36])
 | 122,14=>some ([0,1,2,3,4,5,6],[48])
 | 127,26=>some ([0,1,2,3,4,5,6,7],[77])
 | 127,28=>some ([0,1,2,3,4,5,6,7],[86])
 | _,_=>none
def mask:Nat -> Nat -> List Nat
 | 8,3=>[0,0,2,1,15]
 | 12,2=>[0,0,2,7,15,0,31,127]
 | 16,12=>[0,1,0,4,15,31,63]
 | 16,22=>[0,1,0,4,15,31,63]
 | 16,27=>[0,1,0,4,15,31,63]
 | 35,3=>[0,1,3,7,0,16,48,112,0,496,1023,2047,0,8191]
 | 38,3=>[0,1,0,4,12,31,63,127]
 | 67,5=>[0,1,0,4,15,31,63]
 | 67,13=>[0,1,0,4,15,31,63]
 | 71,3=>[0,1,3,7,0,16,48,112,255,511,0,2047]
 | 89,11=>[0,1,0,4,15,31]
 | 95,18=>[0,1,0,4,12,31,63,127]
 | 95,37=>[0,1,0,4,12,31,63,127]
 | 95,45=>[0,1,0,4,12,31,63,127]
 | 115,7=>[0,1,3,7,0,16,48,112,255,511,1023,0,2048,8191,0,32767]
 | 115,9=>[0,0,2,0,0,16,56,127,0,511]
 | 122,5=>[0,1,0,4,0,16,63,0,255]
 | 122,8=>[0,1,0,4,15,31,63]
 | 122,12=>[0,1,0,4,0,16,63,127]
 | 122,14=>[0,1,0,4,15,31,63]
 | 127,26=>[0,1,0,4,12,31,63,127]
 | 127,28=>[0,1,0,4,12,31,63,127]
 | _,_=>[]
def okL:List Nat:=[6,7,8,9,11,12,13,15,16,18,20,23,24,26,28,29,30,31,32,33,35,38,39,40,41,42,45,46,47,48,49,52,53,54,57,58,59,61,62,63,64,65,67,68,69,70,71,72,73,75,76,79,80,81,82,87,88,89,90,91,92,94,95,96,104,106,113,114,115,116,121,122,123,126,127,129,133,138]
def b7p:List Nat:=[13]
def b0U:List Nat:=[6,8,10,28,30,46,57,61,75,116,123,129,138]
def b2U:List Nat:=[]
def tagL:List Nat:=[] ++ b1n
def argL:List Nat:=[] ++ b1n
theorem tys:tysB Tryz.prog T = true:=by kernel_rfl
theorem mixed:Tryz.prog.follows .mixedOrders = true:=by kernel_rfl
def b3O:Nat -> Option Hand
 | 56=>some (.plain b5u)
 | 14=>some (.via gPre b5o)
 | _=>none
noncomputable def a9F:Env:={ P:=Tryz.prog,T:=T,keep:=keep,byref:=fun _ _=>none,meth:=fun _ _=>none,tags:=fun g=>has g tagL,argTags:=fun g=>has g argL,quiet:=fun g=>has g b0U,loose:=fun _=>false,ok:=fun g=>has g okL,cut:=cut,b0k:=b0k,a5R:=a5R,sep:=sep,mask:=mask,look:=fun g=>has g b7p,frz:=fun g=>has g b2U,slk:=slk,full:=true,intr:=b3O }
theorem b8d:b0K a9F okL = true:=by kernel_rfl
theorem b6o:a7B a9F:=by
 intro _ _ _ h
 cases h
theorem envOk0:a7a a9F:=⟨b6o,b0g tys,mixed,a7W (fun _ h=>h) b8d,(fun g h hg=>by simp only [a9F,b3O] at hg; split at hg <;> first | (cases hg; done) | (cases hg; exact b3h)),(fun g pre post hg=>by simp only [a9F,b3O] at hg; split at hg <;> first | (cases hg; done) | (cases hg; exact a7f))⟩
end Go.Proofs.YtmhiojdkjokccaaGreatDoor.Aw
namespace Go.Vm
open Go
variable {env:Env}
def rho0:Rho:=⟨fun _=>none,fun _ _=>none⟩
def lab0:Lab:=fun _ _=>none
theorem rho0_le (ρ:Rho):rho0.le ρ:=⟨fun _ _ h=>(by cases h),fun _ _ _ h=>(by cases h)⟩
def b27 (B:Nat):Rho:=⟨fun k=>if k = 0 then some (some (B,0),none) else none,fun k n=>if k = 1 /\ n = 0 then some (none,0) else none⟩
def a3j (B:Nat):Lab:=fun b o=>if b = B /\ o = 0 then some (some 0) else none
def hp1:Hp:=[(0,.row [.slice (.tag 1) 0 []]),(1,.tip 0 0)]
theorem old_rel {w0 w:World} {B:Nat} (hB:w0.heap.size <= B) (hk:∀ b,b < w0.heap.size -> w.heap[b]? = w0.heap[b]?) {v:V} {x:Value} (h:Rel rho0 lab0 w0 v x):Rel (b27 B) (a3j B) w v x:=by
 have h1:Rel rho0 (a3j B) w v x:=by
  refine h.carry fun b o x h=>?_
  have hb:=a05 h.cell
  refine ⟨?_,?_⟩
  ·simp only [a3j]
   rw [if_neg (by omega)]
  ·simp only [cellAt,World.cell?,hk b hb]
   exact h.cell
 exact h1.ext (Ext.refl _ _) (rho0_le _)
theorem sim1 {w:World} {B:Nat} (hc:w.cell? ⟨B,0,none⟩ = some (.slice none 0 0)) (hz:w.frozen? ⟨B,0,none⟩ = false):Sim (b27 B) (a3j B) hp1 w where
 row:=fun k cs h=>by
  have:k = 0 /\ cs = [.slice (.tag 1) 0 []]:=by
   simp only [hp1,hget] at h
   split at h
   ·rename_i hb; cases h; exact ⟨(Nat.eq_of_beq_eq_true hb).symm,rfl⟩
   ·split at h
    ·cases h
    ·cases h
  obtain ⟨rfl,rfl⟩:=this
  refine ⟨B,0,[.slice none 0 0],by simp [b27],?_,fun i x hx=>?_⟩
  ·refine I4.2 ⟨_,_,rfl,.slice _ 0 [] [] 0 0 none 0 rfl (Nat.le_refl _) (fun h=>by omega) (fun _=>rfl) (fun i x h=>by simp at h) (fun i v x h=>by simp at h) (by simp [b27]) (by simp) (by simp),⟨rfl,by simp⟩⟩
  ·match i,hx with
   | 0,hx =>
    cases hx
    exact ⟨⟨by simp [a3j],hz,_,hc⟩,hc⟩
   | i + 1,hx=>simp at hx
 grow:=fun k e cs h=>by
  simp only [hp1,hget] at h
  split at h
  ·cases h
  ·split at h <;> cases h
 tip:=fun k e n h=>by
  have:k = 1 /\ e = 0 /\ n = 0:=by
   simp only [hp1,hget] at h
   split at h
   ·cases h
   ·split at h
    ·rename_i hb; cases h; exact ⟨(Nat.eq_of_beq_eq_true hb).symm,rfl,rfl⟩
    ·cases h
  obtain ⟨rfl,rfl,rfl⟩:=this
  exact ⟨none,0,by simp [b27],Nat.le_refl _,fun _=>rfl,fun _=>rfl,fun a h=>by cases h⟩
 hdom:=fun k n x h=>by
  simp only [b27] at h
  split at h
  ·rename_i hk
   obtain ⟨rfl,rfl⟩:=hk
   exact ⟨0,0,rfl,Nat.le_refl _⟩
  ·cases h
 adom:=fun k x h=>by
  simp only [b27] at h
  split at h
  ·rename_i hk
   subst hk
   simp [hp1,hget]
  ·cases h
 ldom:=fun b o k h=>by
  simp only [a3j] at h
  split at h
  ·rename_i hb
   obtain ⟨rfl,rfl⟩:=hb
   exact a05 hc
  ·cases h
theorem b1K {w w':World} {B:Nat} {lab':Lab} (E:Ext (a3j B) w lab' w'):Wrote B w w' :=
 ⟨E.size,E.os,E.tape,E.output,fun b hb hn=>E.blk b hb (fun o k h=>by
  simp only [a3j] at h
  rw [if_neg (fun h=>hn h.1)] at h
  cases h)⟩
theorem c0q (hE:a7a env) {g1 g2:Nat} {c:V} {H1 H2:Hp} {s:List UInt8}
  (h1:E env (.call g1 [.ptr 0 0,c]) hp1 = some (.ret (.tuple []) H1)) (h2:E env (.call g2 [.ptr 0 0]) H1 = some (.ret (.str s) H2))
  {w0 w:World} {B:Nat} (hB:w0.heap.size <= B) (hk:∀ b,b < w0.heap.size -> w.heap[b]? = w0.heap[b]?) (hc:w.cell? ⟨B,0,none⟩ = some (.slice none 0 0)) (hz:w.frozen? ⟨B,0,none⟩ = false) {x:Value} (hx:Rel rho0 lab0 w0 c x) :
  Calls env.P g1 #[.pointer (some ⟨B,0,none⟩),x] w fun e w1=>e = .returned (.tuple #[]) /\ Wrote B w w1 /\
   Calls env.P g2 #[.pointer (some ⟨B,0,none⟩)] w1 fun e w2=>e = .returned (.string ⟨⟨s⟩⟩) /\ Wrote B w w2:=by
 obtain ⟨k1,hk1⟩:=(a2A env).at_ _ _ _ h1
 obtain ⟨k2,hk2⟩:=(a2A env).at_ _ _ _ h2
 have hS:=sim1 hc hz
 have hp:Rel (b27 B) (a3j B) w (.ptr 0 0) (.pointer (some ⟨B,0 + 0,none⟩)):=.ptr 0 0 B 0 none (by simp [b27])
 have hL:L6 (b27 B) (a3j B) w [.ptr 0 0,c] [.pointer (some ⟨B,0,none⟩),x]:=I4.2 ⟨_,_,rfl,hp,I4.2 ⟨_,_,rfl,old_rel hB hk hx,⟨rfl,by simp⟩⟩⟩
 have C1:=(b4A hE k1).1.call g1 _ _ _ hk1 (b27 B) (a3j B) w _ ⟨rfl,rfl,trivial⟩ hS hL
 refine C1.mono fun e w1 hP=>?_
 cases e with
 | returned v =>
  obtain ⟨ρ',lab',s1,s2,s3,s4,s5,s6⟩:=hP
  have hv:v = .tuple #[]:=by
   cases s4 with
   | tuple _ zs h1 h2 =>
    have:zs = []:=by simpa using h1
    subst this; rfl
  refine ⟨by rw [hv],b1K s2,?_⟩
  have ha:ρ'.at_ 0 = some (some (B,0),none):=s3.at_ 0 _ (by decide) (by simp [b27])
  have hp2:Rel ρ' lab' w1 (.ptr 0 0) (.pointer (some ⟨B,0 + 0,none⟩)):=.ptr 0 0 B 0 none ha
  have hL2:L6 ρ' lab' w1 [.ptr 0 0] [.pointer (some ⟨B,0,none⟩)]:=I4.2 ⟨_,_,rfl,hp2,⟨rfl,by simp⟩⟩
  have C2:=(b4A hE k2).1.call g2 _ _ _ hk2 ρ' lab' w1 _ s5 s1 hL2
  refine C2.mono fun e w2 hP=>?_
  cases e with
  | returned v2 =>
   obtain ⟨ρ2,lab2,t1,t2,t3,t4,t5,t6⟩:=hP
   have hv2:v2 = .string ⟨⟨s⟩⟩:=by cases t4; rfl
   exact ⟨by rw [hv2],b1K (s2.trans t2)⟩
  | panicked ch=>exact hP.elim
  | outgrown=>exact hP.elim
 | panicked ch=>exact hP.elim
 | outgrown=>exact hP.elim
end Go.Vm
namespace Go.Proofs.YtmhiojdkjokccaaGreatDoor.Aw
open Go Go.Vm Go.RowKit Go.Lib
theorem nf_rel0 {ρ:Rho} {lab:Lab} {w:World} {v:V} {x:Value} (h:Rel ρ lab w v x) (hn:NF v):Rel rho0 lab0 w v x:=NF.rel (fun _ _ _=>rfl) h hn
theorem a8b {p:Prop} (h:p):Hid p:=h
def b2b (c:List V) (s:List UInt8):Prop:=∃ H1 H2,E a9F (.call 18 [.ptr 0 0,.agg c]) hp1 = some (.ret (.tuple []) H1) /\ E a9F (.call 20 [.ptr 0 0]) H1 = some (.ret (.str s) H2)
def printed (l:List (List UInt8)):List UInt8:=(l.map (· ++ [10])).flatten
theorem b6C {l:List (List UInt8)} {k:Nat} {s:List UInt8} (h:l[k]? = some s):printed (l.take (k + 1)) = printed (l.take k) ++ s ++ [10]:=by
 unfold printed
 rw [List.take_add_one,h]
 simp
theorem b8y (l:List (List UInt8)) (k:Nat):(printed (l.take k)).length <= (printed l).length:=by
 have h:printed l = printed (l.take k) ++ printed (l.drop k):=by
  unfold printed
  rw [<- List.flatten_append,<- List.map_append,List.take_append_drop]
 rw [h,List.length_append]; omega
theorem bld_kept {T e:TypeId} {B0 b:Nat} {bs:List Value} {w w':World} (h:IsBuilder T e B0 b bs w) (hk:∀ k,k < w.heap.size -> w'.heap[k]? = w.heap[k]?):IsBuilder T e B0 b bs w':=by
 have key:∀ {p:Value},BuilderAt T e B0 b p bs w -> BuilderAt T e B0 b p bs w':=by
  rintro p ⟨h1,v,h2,h3,h4⟩
  have hb:b < w.heap.size:=by
   rcases Nat.lt_or_ge b w.heap.size with h | h
   ·exact h
   ·rw [Array.getElem?_eq_none h] at h2; cases h2
  refine ⟨h1,v,(hk b hb).trans h2,?_,h4⟩
  refine ⟨h3.1,?_⟩
  rcases h3.2 with h5 | ⟨g,cap,cur,h5,h6,h7,h8⟩
  ·exact .inl h5
  ·have hg:g < w.heap.size:=by
    rcases Nat.lt_or_ge g w.heap.size with h | h
    ·exact h
    ·rw [Array.getElem?_eq_none h] at h7; cases h7
   exact .inr ⟨g,cap,cur,h5,h6,(hk g hg).trans h7,h8⟩
 rcases h with h | h
 ·exact .inl (key h)
 ·exact .inr (key h)
theorem b68 (T e:TypeId) (B0:Nat) (w:World) (hB:B0 <= w.heap.size):IsBuilder T e B0 w.heap.size [] (w.alloc (.cells #[.pointer none,.slice none 0 0] T)):=by
 have key:∀ {p:Value},BuilderAt T e w.heap.size w.heap.size p [] (w.alloc (.cells #[.pointer none,.slice none 0 0] T)) -> BuilderAt T e B0 w.heap.size p [] (w.alloc (.cells #[.pointer none,.slice none 0 0] T)):=by
  rintro p ⟨h1,v,h2,h3,h4⟩
  refine ⟨hB,v,h2,⟨h3.1,?_⟩,h4⟩
  rcases h3.2 with h5 | ⟨g,cp,cur,h5,h6,r⟩
  ·exact .inl h5
  ·exact .inr ⟨g,cp,cur,h5,by omega,r⟩
 rcases fresh_isBuilder T e w with h | h
 ·exact .inl (key h)
 ·exact .inr (key h)
structure Kid (w:World) (b o:Nat) (s:List UInt8) (k:Nat):Prop where
 ex:∃ c y0 y1 y2 y3 y4 y5 y6 y7 y8 y9,w.cell? ⟨b,o + k * 10,none⟩ = some y0 /\ w.cell? ⟨b,o + k * 10 + 1,none⟩ = some y1 /\ w.cell? ⟨b,o + k * 10 + 2,none⟩ = some y2 /\ w.cell? ⟨b,o + k * 10 + 3,none⟩ = some y3 /\
  w.cell? ⟨b,o + k * 10 + 4,none⟩ = some y4 /\ w.cell? ⟨b,o + k * 10 + 5,none⟩ = some y5 /\ w.cell? ⟨b,o + k * 10 + 6,none⟩ = some y6 /\ w.cell? ⟨b,o + k * 10 + 7,none⟩ = some y7 /\ w.cell? ⟨b,o + k * 10 + 8,none⟩ = some y8 /\ w.cell? ⟨b,o + k * 10 + 9,none⟩ = some y9 /\
  Rel rho0 lab0 w (.agg c) (.agg #[y0,y1,y2,y3,y4,y5,y6,y7,y8,y9]) /\ b2b c s /\ ∀ y ∈ [y0,y1,y2,y3,y4,y5,y6,y7,y8,y9],y.oneCell' = true
theorem b74 {a b:Nat} {w w':World} (h:a <= b) (hB:Below b w w'):Below a w w':=⟨hB.os,hB.tape,hB.output,hB.size,fun k hk=>hB.block k (by omega)⟩
theorem b5O (w:World) (cs:Array Value) (t:TypeId) (i:Nat) (v:Value) (hi:i < cs.size) (hv:v.oneCell' = true):(store ⟨w.heap.size,i,none⟩ v).run Tryz.prog (w.alloc (.cells cs t)) = .ok () (w.alloc (.cells (cs.setIfInBounds i v) t)):=by
 have h1:(w.alloc (.cells cs t)).cell? ⟨w.heap.size,i,none⟩ = some cs[i]:=by simp [hi]
 have h2:(w.alloc (.cells cs t)).frozen? ⟨w.heap.size,i,none⟩ = false:=by simp
 rw [run_store _ _ _ _ _ hv]
 simp [stored,go_sem,h1,h2,World.setCell_alloc_new]
theorem b8x (v0 v1 v2 v3 v4 v5 v6 v7 v9:Value) (ao:Option Addr) (b o cap:Nat) (l:List (List UInt8)) (w:World) (hn:l.length <= cap) (hao:0 < l.length -> ao = some ⟨b,o,none⟩)
  (hb:0 < l.length -> b < w.heap.size) (hN:l.length <= 140737488355328) (hK:∀ (k:Nat) s,l[k]? = some s -> Kid w b o s k) (hlen:(printed l).length <= 140737488355328) :
  Calls Tryz.prog 10 #[.agg #[v0,v1,v2,v3,v4,v5,v6,v7,.slice ao l.length cap,v9]] w fun e w'=>e = .returned (.string ⟨(printed l).toArray⟩) /\ Below w.heap.size w w':=by
 have HK:=a8b hK
 have Hlen:=a8b hlen
 have Hao:=a8b hao
 have Hb:=a8b hb
 clear hK hlen hao hb
 go_enter Tryz.func10,Tryz.ntmps10
 go_wp2_with fail
 go_loopw [10] (fun i wr=>∃ k:Nat,k <= l.length /\ i = .int .i64 k /\ Hid (IsBuilder 60 5 w.heap.size (w.heap.size + 1) (byteCells (printed (l.take k))) wr) /\ Hid (Below w.heap.size w wr)) (fun i _=>l.length - (RowKit.intOf i).toNat)
 case atStart =>
  refine ⟨0,Nat.zero_le _,rfl,a8b ?_,a8b ?_⟩
  ·have:=b68 60 5 w.heap.size (w.alloc (.cells #[v0,v1,v2,v3,v4,v5,v6,v7,.slice ao l.length cap,v9] 35)) (by rw [World.size_alloc]; omega)
   rw [World.size_alloc] at this
   exact this
  ·exact ((Below.refl w.heap.size w).alloc (Nat.le_refl _) _).alloc (by rw [World.size_alloc]; omega) _
 case round =>
  obtain ⟨k,hk,rfl,HB,HW⟩:=hrel
  by_cases hkn:k < l.length
  ·obtain ⟨s,hs⟩:∃ s,l[k]? = some s:=⟨l[k],List.getElem?_eq_getElem hkn⟩
   have hao:=Hao.out (by omega)
   subst hao
   have hbw:=Hb.out (by omega)
   obtain ⟨c,y0,y1,y2,y3,y4,y5,y6,y7,y8,y9,c0,c1,c2,c3,c4,c5,c6,c7,c8,c9,hr,hline,hone⟩:=(HK.out k s hs).ex
   have cc:∀ j,wr.cell? ⟨b,j,none⟩ = w.cell? ⟨b,j,none⟩:=fun j=>HW.out.cell (p:=⟨b,j,none⟩) hbw
   rw [<- cc] at c0 c1 c2 c3 c4 c5 c6 c7 c8 c9
   obtain ⟨H1,H2,q1,q2⟩:=hline
   have Q1:=a8b q1
   have Q2:=a8b q2
   have HR:=a8b hr
   have Hs:=a8b hs
   have hBw:=HW.out.size
   clear q1 q2 hr hs cc
   go_wp2_with fail
   rw [b5O _ _ _ _ _ (by simp) (hone _ (by simp))]
   simp only [Result.andThen]
   repeat (rw [b5O _ _ _ _ _ (by simp) (hone _ (by simp))]; simp only [Result.andThen])
   have hset:((((((((((#[Value.int .i64 0,.string { data:=#[] },.int .i64 0,.int .i64 0,.string { data:=#[] },.int .i64 0,.slice none 0 0,.slice none 0 0,.slice none 0 0,.int .i64 0].setIfInBounds 0 y0).setIfInBounds 1 y1).setIfInBounds 2 y2).setIfInBounds 3 y3).setIfInBounds 4 y4).setIfInBounds 5 y5).setIfInBounds 6 y6).setIfInBounds 7 y7).setIfInBounds 8 y8).setIfInBounds 9 y9) = #[y0,y1,y2,y3,y4,y5,y6,y7,y8,y9]:=by simp
   rw [hset]
   clear hset
   go_wp2_with fail
   have hsz:((wr.alloc (.cells #[y0,y1,y2,y3,y4,y5,y6,y7,y8,y9] 35)).alloc (.cells #[.slice none 0 0] 64)).heap.size = wr.heap.size + 2:=by rw [World.size_alloc,World.size_alloc]
   have hold:∀ j,j < wr.heap.size -> ((wr.alloc (.cells #[y0,y1,y2,y3,y4,y5,y6,y7,y8,y9] 35)).alloc (.cells #[.slice none 0 0] 64)).heap[j]? = wr.heap[j]?:=fun j hj =>
    (alloc_old _ _ j (by rw [World.size_alloc]; omega)).trans (alloc_old _ _ j hj)
   have hcW:((wr.alloc (.cells #[y0,y1,y2,y3,y4,y5,y6,y7,y8,y9] 35)).alloc (.cells #[.slice none 0 0] 64)).cell? ⟨wr.heap.size + 1,0,none⟩ = some (.slice none 0 0):=by
    have:=World.cell?_alloc_new (wr.alloc (.cells #[y0,y1,y2,y3,y4,y5,y6,y7,y8,y9] 35)) #[.slice none 0 0] 64 0
    rw [World.size_alloc] at this
    exact this
   have hzW:((wr.alloc (.cells #[y0,y1,y2,y3,y4,y5,y6,y7,y8,y9] 35)).alloc (.cells #[.slice none 0 0] 64)).frozen? ⟨wr.heap.size + 1,0,none⟩ = false:=by
    have:=World.frozen?_alloc_new (wr.alloc (.cells #[y0,y1,y2,y3,y4,y5,y6,y7,y8,y9] 35)) #[.slice none 0 0] 64 0
    rw [World.size_alloc] at this
    exact this
   refine (c0q envOk0 Q1.out Q2.out (w0:=w) (w:=((wr.alloc (.cells #[y0,y1,y2,y3,y4,y5,y6,y7,y8,y9] 35)).alloc (.cells #[.slice none 0 0] 64))) (B:=wr.heap.size + 1) (by omega) (fun j hj=>(hold j (by omega)).trans (HW.out.block j hj)) hcW hzW HR.out).mono ?_
   rintro e w1 ⟨rfl,hw1,C2⟩
   have CC:=a8b C2
   clear C2 hcW hzW
   go_wp2_with fail
   refine CC.out.mono ?_
   rintro e w2 ⟨rfl,hw2⟩
   have hk2:∀ j,j < wr.heap.size -> w2.heap[j]? = wr.heap[j]?:=fun j hj=>(hw2.blk j (by omega) (by omega)).trans (hold j hj)
   have hs2:wr.heap.size <= w2.heap.size:=by have:=hw2.size; omega
   have hlen:=Hlen.out
   have hlk:=b8y l (k + 1)
   have hpt:=b6C Hs.out
   rw [hpt,List.length_append,List.length_append,List.length_singleton] at hlk
   have HB2:=a8b (bld_kept HB.out hk2)
   have HW2:=a8b (⟨hw2.os,hw2.tape,hw2.output,hs2,fun j hj=>hk2 j (by omega)⟩:Below wr.heap.size wr w2)
   have Hpt:=a8b hpt
   clear hw1 hw2 hk2 CC hold hsz hpt
   go_wp2_with fail
   refine (Tryz.Builder_WriteString w.heap.size (w.heap.size + 1) _ ⟨⟨s⟩⟩ w2 HB2.out (by rw [byteCells_length]; simp only [ByteArray.size]; simp; omega) (by omega)).mono ?_
   rintro e w3 ⟨rfl,h3,hb3⟩
   have H3:=a8b h3
   have Hb3:=a8b hb3
   clear h3 hb3
   go_wp2_with fail
   refine (Tryz.Builder_WriteByte w.heap.size (w.heap.size + 1) _ 10 w3 (.inr H3.out) (by rw [List.length_append,byteCells_length,strCells_length]; simp only [ByteArray.size]; simp; omega) (by have:=Hb3.out.size; omega)).mono ?_
   rintro e w4 ⟨rfl,h4,hb4⟩
   have hnext:byteCells (printed (l.take k)) ++ strCells ⟨⟨s⟩⟩ ++ [.int .u8 10] = byteCells (printed (l.take (k + 1))):=by
    rw [Hpt.out,strCells_eq,byteCells_append,byteCells_append]
    rfl
   rw [hnext] at h4
   have H4:=a8b (Or.inr h4:IsBuilder 60 5 w.heap.size (w.heap.size + 1) _ w4)
   have Hb4:=a8b ((HW.out.trans (b74 hBw HW2.out)).trans (Hb3.out.trans hb4))
   clear h4 hb4 hnext
   go_wp2
   exact ⟨⟨k + 1,by omega,by go_num,H4,Hb4⟩,by simp [RowKit.intOf]; omega⟩
  ·have hke:k = l.length:=by omega
   subst hke
   have hB':=HB.out
   rw [List.take_length] at hB'
   have hBw:=HW.out.size
   have HB2:=a8b hB'
   clear hB'
   go_wp2_with fail
   refine (Tryz.Builder_String_any w.heap.size (w.heap.size + 1) _ wr HB2.out hBw).mono ?_
   rintro e w5 ⟨rfl,hb5⟩
   have Hb5:=a8b (HW.out.trans hb5)
   clear hb5
   go_wp2
   go_ret
   exact ⟨rfl,Hb5.out⟩
theorem b8n {c:List V} {s s':List UInt8} (h:b2b c s) (g:b2b c s'):s = s':=by
 obtain ⟨H1,H2,a1,a2⟩:=h
 obtain ⟨K1,K2,b1,b2⟩:=g
 rw [a1] at b1
 cases b1
 rw [a2] at b2
 cases b2
 rfl
inductive Lines:List V -> List (List UInt8) -> Prop
 | nil:Lines [] []
 | cons (c r:List V) (s:List UInt8) (l:List (List UInt8)):c.length = 10 -> b2b c s -> Lines r l -> Lines (c ++ r) (s :: l)
theorem Lines.det {cs:List V} {l:List (List UInt8)} (h:Lines cs l):∀ {l'},Lines cs l' -> l = l':=by
 induction h with
 | nil =>
  intro l' g
  generalize hq:([]:List V) = q at g
  cases g with
  | nil=>rfl
  | cons c r s l h1 h2 h3 =>
   have:=congrArg List.length hq
   rw [List.length_append] at this
   simp at this
   omega
 | cons c r s l h1 h2 h3 ih =>
  intro l' g
  generalize hq:c ++ r = q at g
  cases g with
  | nil =>
   have:=congrArg List.length hq
   rw [List.length_append,h1] at this
   simp only [List.length_nil] at this
   omega
  | cons c' r' s' l'' g1 g2 g3 =>
   obtain ⟨rfl,rfl⟩:=List.append_inj hq (by rw [h1,g1])
   rw [b8n h2 g2,ih g3]
theorem Lines.get {cs:List V} {l:List (List UInt8)} (h:Lines cs l):∀ {k:Nat} {s:List UInt8},l[k]? = some s -> b2b ((cs.drop (k * 10)).take 10) s /\ k * 10 + 10 <= cs.length:=by
 induction h with
 | nil=>intro k s h; simp at h
 | cons c r s0 l h1 h2 h3 ih =>
  intro k s hk
  cases k with
  | zero =>
   simp only [List.getElem?_cons_zero,Option.some.injEq] at hk
   subst hk
   refine ⟨?_,by rw [List.length_append]; omega⟩
   rw [Nat.zero_mul,List.drop_zero,List.take_append_of_le_length (by omega),List.take_of_length_le (by omega)]
   exact h2
  | succ k =>
   simp only [List.getElem?_cons_succ] at hk
   obtain ⟨g1,g2⟩:=ih hk
   refine ⟨?_,by rw [List.length_append]; omega⟩
   rw [show (k + 1) * 10 = c.length + k * 10 from by omega,<- List.drop_drop,List.drop_left]
   exact g1
noncomputable def b0T:List V -> Hp -> Option Out:=fun args H=>match args with
 | [.agg [_,_,_,_,_,_,_,_,.slice _ n cs,_]]=>@dite _ (∃ l,Lines cs l /\ l.length = n /\ l.length <= 140737488355328 /\ (printed l).length <= 140737488355328) (Classical.propDecidable _) (fun h=>some (.ret (.str (printed h.choose)) H)) (fun _=>none)
 | _=>none
theorem b91 {c0 c1 c2 c3 c4 c5 c6 c7 c9:V} {ow:Own} {n:Nat} {cs:List V} {l:List (List UInt8)} {H:Hp} (h:Lines cs l) (hn:l.length = n) (hN:l.length <= 140737488355328) (hl:(printed l).length <= 140737488355328) :
  b0T [.agg [c0,c1,c2,c3,c4,c5,c6,c7,.slice ow n cs,c9]] H = some (.ret (.str (printed l)) H):=by
 have hex:∃ l,Lines cs l /\ l.length = n /\ l.length <= 140737488355328 /\ (printed l).length <= 140737488355328:=⟨l,h,hn,hN,hl⟩
 have he:hex.choose = l:=(h.det hex.choose_spec.1).symm
 simp only [b0T]
 rw [dif_pos hex,he]
theorem ten {α:Type} (l:List α) (h:l.length = 10):∃ y0 y1 y2 y3 y4 y5 y6 y7 y8 y9,l = [y0,y1,y2,y3,y4,y5,y6,y7,y8,y9]:=by
 match l,h with
 | [y0,y1,y2,y3,y4,y5,y6,y7,y8,y9],_=>exact ⟨_,_,_,_,_,_,_,_,_,_,rfl⟩
theorem print_ok:b0C Tryz.prog 10 b0T:=by
 refine ⟨fun args H out h ρ lab w xs hc hS hx=>?_,⟨_,_,Tryz.func10,rfl,rfl⟩⟩
 unfold b0T at h
 split at h
 ·rename_i c0 c1 c2 c3 c4 c5 c6 c7 ow n cs c9
  split at h
  ·rename_i hex
   cases h
   obtain ⟨hL,hn,hN,hlen⟩:=hex.choose_spec
   generalize hex.choose = l at hL hn hN hlen
   obtain ⟨x1,r1,rfl,a1,a2⟩:=I4.1 hx
   have:r1 = []:=by have:=a2.1; simpa using this
   subst this
   cases a1 with
   | agg _ vs e1 e2 =>
   obtain ⟨v0,v1,v2,v3,v4,v5,v6,v7,v8,v9,rfl⟩:=ten vs (by rw [e1]; rfl)
   have q8:=e2 8 _ _ rfl rfl
   cases q8 with
   | slice _ _ _ ys b o ao cap g1 g2 g3 g4 g5 g6 g7 g8 g9 =>
   subst hn
   have K:=b8x v0 v1 v2 v3 v4 v5 v6 v7 v9 ao b o cap l w g2 g3 (fun h0=>?_) hN (fun k s hk=>⟨?_⟩) hlen
   ·refine K.mono fun e w' ⟨he,hw⟩=>?_
    subst he
    have G:a0Y w w':=⟨hw.size,hw.os,hw.tape,hw.output,fun b hb=>hw.block b hb⟩
    exact ⟨ρ,lab,hS.grew G,G.ext lab,⟨fun _ _ _ h=>h,fun _ _ _ _ h=>h⟩,.str _,hc,Nat.le_refl _⟩
   ·obtain ⟨_,h2⟩:=hL.get (List.getElem?_eq_getElem h0)
    have hy:0 < ys.length:=by rw [g1]; omega
    have:=g5 0 ys[0] (by simp [hy])
    exact a05 this.cell
   ·obtain ⟨h1,h2⟩:=hL.get hk
    have hlen2:((ys.drop (k * 10)).take 10).length = 10:=by
     rw [List.length_take,List.length_drop,g1]; omega
    obtain ⟨y0,y1,y2,y3,y4,y5,y6,y7,y8,y9,hy⟩:=ten _ hlen2
    have get:∀ j,j < 10 -> ∀ y,[y0,y1,y2,y3,y4,y5,y6,y7,y8,y9][j]? = some y -> ys[k * 10 + j]? = some y:=by
     intro j hj y hyj
     rw [<- hy,List.getElem?_take,if_pos hj,List.getElem?_drop] at hyj
     exact hyj
    have cell:∀ j,j < 10 -> ∀ y,[y0,y1,y2,y3,y4,y5,y6,y7,y8,y9][j]? = some y -> w.cell? ⟨b,o + k * 10 + j,none⟩ = some y:=by
     intro j hj y hyj
     have:=(g5 _ _ (get j hj y hyj)).cell
     rw [<- Nat.add_assoc] at this
     exact this
    refine ⟨(cs.drop (k * 10)).take 10,y0,y1,y2,y3,y4,y5,y6,y7,y8,y9,cell 0 (by omega) _ rfl,cell 1 (by omega) _ rfl,cell 2 (by omega) _ rfl,cell 3 (by omega) _ rfl,cell 4 (by omega) _ rfl,cell 5 (by omega) _ rfl,cell 6 (by omega) _ rfl,cell 7 (by omega) _ rfl,cell 8 (by omega) _ rfl,cell 9 (by omega) _ rfl,?_,h1,?_⟩
    ·refine .agg _ [y0,y1,y2,y3,y4,y5,y6,y7,y8,y9] ?_ (fun i v x hv hx=>?_)
     ·rw [List.length_take,List.length_drop]
      show 10 = _
      omega
     ·have hi:i < 10:=by
       rcases Nat.lt_or_ge i 10 with h | h
       ·exact h
       ·rw [List.getElem?_eq_none (by simpa using h)] at hx; cases hx
      rw [List.getElem?_take,if_pos hi,List.getElem?_drop] at hv
      exact nf_rel0 (g6 _ _ _ hv (get i hi x hx)) (g9 v (List.mem_of_getElem? hv))
    ·intro y hyy
     obtain ⟨j,hj,rfl⟩:=List.mem_iff_getElem.1 hyy
     exact g8 _ (List.mem_of_getElem? (get j (by simpa using hj) _ (by simp [hj])))
  ·cases h
 ·cases h
end Go.Proofs.YtmhiojdkjokccaaGreatDoor.Aw
namespace Go.Proofs.YtmhiojdkjokccaaGreatDoor.Aw
open Go Go.Vm
noncomputable def b3P:Nat -> Option Hand
 | 56=>some (.plain b5u)
 | 10=>some (.plain b0T)
 | 14=>some (.via gPre b5o)
 | _=>none
noncomputable def env:Env:={ P:=Tryz.prog,T:=T,keep:=keep,byref:=fun _ _=>none,meth:=fun _ _=>none,tags:=fun g=>has g tagL,argTags:=fun g=>has g argL,quiet:=fun g=>has g b0U,loose:=fun _=>false,ok:=fun g=>has g okL,cut:=cut,b0k:=b0k,a5R:=a5R,sep:=sep,mask:=mask,look:=fun g=>has g b7p,frz:=fun g=>has g b2U,slk:=slk,full:=true,intr:=b3P }
theorem codes:b0K env okL = true:=by kernel_rfl
theorem b36:a7B env:=by
 intro _ _ _ h
 cases h
theorem b60:a7a env:=⟨b36,b0g tys,mixed,a7W (fun _ h=>h) codes,(fun g h hg=>by simp only [env,b3P] at hg; split at hg <;> first | (cases hg; done) | (cases hg; exact b3h) | (cases hg; exact print_ok)),(fun g pre post hg=>by simp only [env,b3P] at hg; split at hg <;> first | (cases hg; done) | (cases hg; exact a7f))⟩
end Go.Proofs.YtmhiojdkjokccaaGreatDoor.Aw
namespace Go.Proofs.YtmhiojdkjokccaaGreatDoor.Aw
open Go Go.Vm
def srcA:List UInt8:=[102,117,110,99,32,102,40,120,58,32,73,110,116,41,32,45,62,32,73,110,116,32,123,32,114,101,116,117,114,110,32,120,32,43,32,50,32,42,32,51,59,32,125]
def decA:List V:=[.i 7,.str [102],.i 1,.i 1,.str [],.i 0,.slice .sealed 0 [],.slice .sealed 0 [],.slice .sealed 2 [.i 10,.str [120],.i 0,.i 1,.str [],.i 0,.slice .sealed 0 [],.slice .sealed 0 [],.slice .sealed 0 [],.i 7,.i 20,.str [],.i 0,.i 0,.str [],.i 0,.slice .sealed 0 [],.slice .sealed 0 [],.slice .sealed 1 [.i 28,.str [],.i 0,.i 0,.str [],.i 0,.slice .sealed 0 [],.slice .sealed 0 [],.slice .sealed 1 [.i 64,.str [43],.i 0,.i 0,.str [],.i 0,.slice .sealed 0 [],.slice .sealed 0 [],.slice .sealed 2 [.i 54,.str [120],.i 0,.i 0,.str [],.i 0,.slice .sealed 0 [],.slice .sealed 0 [],.slice .sealed 0 [],.i 31,.i 64,.str [42],.i 0,.i 0,.str [],.i 0,.slice .sealed 0 [],.slice .sealed 0 [],.slice .sealed 2 [.i 50,.str [],.i 2,.i 0,.str [],.i 0,.slice .sealed 0 [],.slice .sealed 0 [],.slice .sealed 0 [],.i 35,.i 50,.str [],.i 3,.i 0,.str [],.i 0,.slice .sealed 0 [],.slice .sealed 0 [],.slice .sealed 0 [],.i 39],.i 35],.i 31],.i 24],.i 22],.i 0]
def cellsA:List V:=[.i 1,.str [],.i 0,.i 0,.str [],.i 0,.slice .sealed 0 [],.slice .sealed 0 [],.slice .sealed 1 [.i 7,.str [102],.i 1,.i 1,.str [],.i 0,.slice .sealed 0 [],.slice .sealed 0 [],.slice .sealed 2 [.i 10,.str [120],.i 0,.i 1,.str [],.i 0,.slice .sealed 0 [],.slice .sealed 0 [],.slice .sealed 0 [],.i 7,.i 20,.str [],.i 0,.i 0,.str [],.i 0,.slice .sealed 0 [],.slice .sealed 0 [],.slice .sealed 1 [.i 28,.str [],.i 0,.i 0,.str [],.i 0,.slice .sealed 0 [],.slice .sealed 0 [],.slice .sealed 1 [.i 64,.str [43],.i 0,.i 0,.str [],.i 0,.slice .sealed 0 [],.slice .sealed 0 [],.slice .sealed 2 [.i 54,.str [120],.i 0,.i 0,.str [],.i 0,.slice .sealed 0 [],.slice .sealed 0 [],.slice .sealed 0 [],.i 31,.i 64,.str [42],.i 0,.i 0,.str [],.i 0,.slice .sealed 0 [],.slice .sealed 0 [],.slice .sealed 2 [.i 50,.str [],.i 2,.i 0,.str [],.i 0,.slice .sealed 0 [],.slice .sealed 0 [],.slice .sealed 0 [],.i 35,.i 50,.str [],.i 3,.i 0,.str [],.i 0,.slice .sealed 0 [],.slice .sealed 0 [],.slice .sealed 0 [],.i 39],.i 35],.i 31],.i 24],.i 22],.i 0],.i 0]
def hpA:Hp:=[(0,.row [.slice (.tag 1) 22 [.str [102,117,110,99],.str [102],.str [40],.str [120],.str [58],.str [73,110,116],.str [41],.str [45,62],.str [73,110,116],.str [123],.str [114,101,116,117,114,110],.str [40],.str [120],.str [43],.str [40],.str [50],.str [42],.str [51],.str [41],.str [41],.str [59],.str [125]]]),(1,.tip 1 22)]
def hpB:Hp:=[(0,.row [.slice (.tag 1) 22 [.str [102,117,110,99],.str [102],.str [40],.str [120],.str [58],.str [73,110,116],.str [41],.str [45,62],.str [73,110,116],.str [123],.str [114,101,116,117,114,110],.str [40],.str [120],.str [43],.str [40],.str [50],.str [42],.str [51],.str [41],.str [41],.str [59],.str [125]]]),(1,.tip 1 22)]
def b2G:List UInt8:=[102,117,110,99,32,102,32,40,32,120,32,58,32,73,110,116,32,41,32,45,62,32,73,110,116,32,123,32,114,101,116,117,114,110,32,40,32,120,32,43,32,40,32,50,32,42,32,51,32,41,32,41,32,59,32,125]
def b4b:Nod:=⟨1,[],0,⟨0,[],0,[]⟩,[],[⟨7,[102],1,⟨1,[],0,[]⟩,[],[⟨10,[120],0,⟨1,[],0,[]⟩,[],[],7⟩,⟨20,[],0,⟨0,[],0,[]⟩,[],[⟨28,[],0,⟨0,[],0,[]⟩,[],[⟨64,[43],0,⟨0,[],0,[]⟩,[],[⟨54,[120],0,⟨0,[],0,[]⟩,[],[],31⟩,⟨64,[42],0,⟨0,[],0,[]⟩,[],[⟨50,[],2,⟨0,[],0,[]⟩,[],[],35⟩,⟨50,[],3,⟨0,[],0,[]⟩,[],[],39⟩],35⟩],31⟩],24⟩],22⟩],0⟩],0⟩
theorem modA_run:run env 400 (.call 8 [.str srcA]) [] = some (.ret (.tuple [.agg cellsA,.slice .sealed 0 []]) []):=by kernel_rfl
theorem b9F:run a9F 400 (.call 18 [.ptr 0 0,.agg decA]) hp1 = some (.ret (.tuple []) hpA):=by kernel_rfl
theorem c0o:run a9F 400 (.call 20 [.ptr 0 0]) hpA = some (.ret (.str b2G) hpB):=by kernel_rfl
theorem modA_enc:(some (.ret (.tuple [.agg cellsA,.slice .sealed 0 []]) []):Option Out) = some (.ret (.tuple [.agg (a9m b4b),.slice .sealed 0 (a6x [])]) []):=by kernel_rfl
theorem modA_E:E env (.call 8 [.str srcA]) [] = some (.ret (.tuple [.agg (a9m b4b),.slice .sealed 0 (a6x [])]) []):=((a2A env).le 400 _ _ _ modA_run).trans modA_enc
theorem lineA_ok:b2b decA b2G:=⟨hpA,hpB,(a2A a9F).le 400 _ _ _ b9F,(a2A a9F).le 400 _ _ _ c0o⟩
theorem linesA:Lines (decA ++ []) [b2G]:=.cons decA [] b2G [] (by kernel_rfl) lineA_ok .nil
theorem printA_E:E env (.call 10 [.agg (a9m b4b)]) [] = some (.ret (.str (printed [b2G])) []):=by
 refine b5V ?_
 have hi:env.intr 10 = some (.plain b0T):=rfl
 show (match env.intr 10 with
  | some (.plain h)=>h [.agg (a9m b4b)] []
  | some (.via pre post)=>match pre [.agg (a9m b4b)] [] with
   | some (g',l,H')=>match E env (.call g' l) H' with
    | some o=>post [.agg (a9m b4b)] [] o
    | none=>none
   | none=>none
  | none=>a3M env (E env) 10 [.agg (a9m b4b)] []) = _
 rw [hi]
 show b0T _ _ = _
 have hc:(a9m b4b) = [.i 1,.str [],.i 0,.i 0,.str [],.i 0,.slice .sealed 0 [],.slice .sealed 0 [],.slice .sealed 1 (decA ++ []),.i 0]:=by kernel_rfl
 rw [hc]
 exact b91 linesA rfl (by decide) (by decide)
end Go.Proofs.YtmhiojdkjokccaaGreatDoor.Aw
namespace Go.Proofs.YtmhiojdkjokccaaGreatDoor.Aw
open Go Go.Vm
def modG (a0W:Str):Option (Nod × List Flt):=match decide (a0W = srcA) with
 | true=>some (b4b,[])
 | false=>none
noncomputable def b4s (n1:Nod):Option Str:=match E env (.call 10 [.agg (c0 n1.op n1.s n1.n n1.t.kind n1.t.name n1.t.n (.sl p8 n1.t.args) (.sl p8 n1.ts) (.sl F6 n1.l) n1.at_)]) [] with
 | some (.ret (.str s) [])=>some s
 | _=>none
end Go.Proofs.YtmhiojdkjokccaaGreatDoor.Aw
namespace Go.Proofs.YtmhiojdkjokccaaGreatDoor.Aw
open Go Go.Vm
noncomputable def a7k:Option (Bool) :=
 (modG [102,117,110,99,32,102,40,120,58,32,73,110,116,41,32,45,62,32,73,110,116,32,123,32,114,101,116,117,114,110,32,120,32,43,32,50,32,42,32,51,59,32,125]).bind fun (nn1,ll2) =>
 cond (eqB (List.length ll2:Int) 0) (
 (b4s nn1).bind fun rr3 =>
 some ((eqS rr3 [102,117,110,99,32,102,32,40,32,120,32,58,32,73,110,116,32,41,32,45,62,32,73,110,116,32,123,32,114,101,116,117,114,110,32,40,32,120,32,43,32,40,32,50,32,42,32,51,32,41,32,41,32,59,32,125,10]))) (
 some (false))
def b2W:Bool -> Out
 | a1m=>.ret (.bool a1m) []
end Go.Proofs.YtmhiojdkjokccaaGreatDoor.Aw
namespace Go.Proofs.YtmhiojdkjokccaaGreatDoor.Aw
open Go Go.Vm
theorem modG_ok {a0W:Str} {nn:Nod} {ll:List Flt} (h:modG a0W = some (nn,ll)):E env (.call 8 [.str a0W]) [] = some (.ret (.tuple [.agg (c0 nn.op nn.s nn.n nn.t.kind nn.t.name nn.t.n (.sl p8 nn.t.args) (.sl p8 nn.ts) (.sl F6 nn.l) nn.at_),.sl a6x ll]) []):=by
 unfold modG at h
 split at h
 ·rename_i hs
  have hs:=of_decide_eq_true hs
  subst hs
  cases h
  exact modA_E
 ·cases h
theorem b90 {n1:Nod} {rr:Str} (h:b4s n1 = some rr):E env (.call 10 [.agg (c0 n1.op n1.s n1.n n1.t.kind n1.t.name n1.t.n (.sl p8 n1.t.args) (.sl p8 n1.ts) (.sl F6 n1.l) n1.at_)]) [] = some (.ret (.str rr) []):=by
 unfold b4s at h
 split at h
 ·rename_i he
  cases h
  exact he
 ·cases h
end Go.Proofs.YtmhiojdkjokccaaGreatDoor.Aw
namespace Go.Proofs.YtmhiojdkjokccaaGreatDoor.Aw
open Go Go.Vm
theorem b3W {r:Bool} (h:a7k = some r) :
  E env (.call 6 []) [] = some (b2W r):=by
 unfold a7k at h
 refine J8 rfl Tryz.func6 rfl rfl ?_
 refine eSG (oB 1 rfl (eSG ?_))
 obtain ⟨⟨nn1,ll2⟩,g1,h⟩:=o8 h
 obtain ⟨nn1_0,nn1_1,nn1_2,⟨nn1_3,nn1_4,nn1_5,nn1_6⟩,nn1_7,nn1_8,nn1_9⟩:=nn1
 refine V4 rfl rfl rfl rfl rfl (modG_ok g1) rfl ?_
 refine oB 6 rfl (eSG (oA 4 rfl ?_))
 refine J5 rfl rfl rfl (fun g2=>?_) (fun g2=>?_)
 ·replace h:=a0K h g2
  refine oA 1 rfl ?_
  obtain ⟨rr3,g3,h⟩:=o8 h
  refine V4 rfl rfl rfl rfl rfl (b90 g3) rfl ?_
  refine oB 3 rfl ?_
  cases h
  exact A9 ⟨_,_,_,rfl,rfl,rfl⟩
 ·replace h:=a0J h g2
  refine oB 5 rfl ?_
  cases h
  exact A9 ⟨_,_,_,rfl,rfl,rfl⟩
end Go.Proofs.YtmhiojdkjokccaaGreatDoor.Aw
namespace Go.Proofs.YtmhiojdkjokccaaGreatDoor.Aw
open Go Go.Vm
theorem a4w {a b:Int} (h:a = b):eqB a b = true:=by simp [eqB,h]
theorem a2F (s:Str):eqS s s = true:=by simp [eqS]
theorem awake_ok:a7k = some true:=by
 unfold a7k
 have h1:modG [102,117,110,99,32,102,40,120,58,32,73,110,116,41,32,45,62,32,73,110,116,32,123,32,114,101,116,117,114,110,32,120,32,43,32,50,32,42,32,51,59,32,125] = some (b4b,[]):=by
  unfold modG
  rw [show decide (_ = srcA) = true from by decide]
 rw [h1,Option.bind_some]
 simp only [List.length_nil]
 rw [show eqB ((0:Nat):Int) 0 = true from a4w rfl,cond_true]
 have h2:b4s b4b = some (printed [b2G]):=by
  unfold b4s
  have h3:=printA_E
  unfold a9m at h3
  rw [h3]
 rw [h2,Option.bind_some]
 have h4:eqS (printed [b2G]) [102,117,110,99,32,102,32,40,32,120,32,58,32,73,110,116,32,41,32,45,62,32,73,110,116,32,123,32,114,101,116,117,114,110,32,40,32,120,32,43,32,40,32,50,32,42,32,51,32,41,32,41,32,59,32,125,10] = true:=by
  have:printed [b2G] = [102,117,110,99,32,102,32,40,32,120,32,58,32,73,110,116,32,41,32,45,62,32,73,110,116,32,123,32,114,101,116,117,114,110,32,40,32,120,32,43,32,40,32,50,32,42,32,51,32,41,32,41,32,59,32,125,10]:=by decide
  rw [this,a2F]
 rw [h4]
theorem awake_E:E env (.call 6 []) [] = some (.ret (.bool true) []):=b3W awake_ok
def b72:List V -> Option V:=fun args=>match args with
 | []=>some (.bool true)
 | _=>none
theorem b73:b0C Tryz.prog 6 (valI b72):=by
 refine b9x b60 (fun args v h=>?_) ⟨_,_,Tryz.func6,by kernel_rfl,rfl⟩
 unfold b72 at h
 split at h
 ·cases h
  exact ⟨rfl,rfl,awake_E⟩
 ·cases h
end Go.Proofs.YtmhiojdkjokccaaGreatDoor.Aw
namespace Go.Proofs.YtmhiojdkjokccaaGreatDoor
open Go Go.Vm
noncomputable def b3P:Nat -> Option Hand
 | 56=>some (.plain b5u)
 | 7=>some (.plain (valI Sc.tokF))
 | 6=>some (.plain (valI Aw.b72))
 | 126=>some (.plain b6R)
 | 14=>some (.via gPre b5o)
 | _=>none
noncomputable def env:Env:={ P:=Tryz.prog,T:=T,keep:=keep,byref:=fun _ _=>none,meth:=fun _ _=>none,tags:=fun g=>has g tagL,argTags:=fun g=>has g argL,quiet:=fun g=>has g b0U,loose:=fun _=>false,ok:=fun g=>has g okL,cut:=cut,b0k:=b0k,a5R:=a5R,sep:=sep,mask:=mask,look:=fun g=>has g b7p,frz:=fun g=>has g b2U,slk:=slk,full:=true,intr:=b3P }
theorem codes:b0K env okL = true:=by kernel_rfl
theorem b36:a7B env:=by
 intro _ _ _ h
 cases h
theorem b60:a7a env:=⟨b36,b0g tys,mixed,a7W (fun _ h=>h) codes,(fun g h hg=>by simp only [env,b3P] at hg; split at hg <;> first | (cases hg; done) | (cases hg; exact b3h) | (cases hg; exact Sc.tok_intr) | (cases hg; exact Aw.b73) | (cases hg; exact b48)),(fun g pre post hg=>by simp only [env,b3P] at hg; split at hg <;> first | (cases hg; done) | (cases hg; exact a7f))⟩
end Go.Proofs.YtmhiojdkjokccaaGreatDoor
namespace Go.Proofs.YtmhiojdkjokccaaGreatDoor
open Go Go.Vm
theorem b1N {bb:Bool} (h:b52 = some bb):E env (.call 6 []) [] = some (.ret (.bool bb) []):=by
 cases h
 exact b5U rfl rfl
theorem b4C {a0W:Str} {l2:List Tok} {c3:Int} {a4:Int} (h:b1A a0W = some (l2,c3,a4)):E env (.call 7 [.str a0W]) [] = some (.ret (.tuple [.sl A7 l2,.agg [.i c3,.i a4]]) []):=by
 unfold b1A at h
 cases h
 exact tok_call rfl (Sc.b3s _).1
theorem atoi_ok {s1:Str} {n2:Int} (h:atoi s1 = some n2):E env (.call 126 [.str s1]) [] = some (.ret (.tuple [.i n2,.nilIface]) []):=by
 unfold atoi at h
 split at h
 ·rename_i hb
  cases h
  exact b5U rfl (by simp only [b6R,hb])
 ·cases h
end Go.Proofs.YtmhiojdkjokccaaGreatDoor
namespace Go.Proofs.YtmhiojdkjokccaaGreatDoor
open Go Go.Vm
theorem b4Z {a0W:Str} {r:Unit} (h:a8N a0W = some r) :
  E env (.call 5 [.str a0W]) [] = some (b3X a0W r):=by
 unfold a8N at h
 refine J8 rfl Tryz.func5 rfl rfl ?_
 refine eSG (oB 1 rfl (eSG (oB 4 rfl ?_)))
 cases h
 exact A9 ⟨_,_,_,rfl,rfl,rfl⟩
theorem b4k {a0W:Str} {r:Flt × List Tok} (h:a7t a0W = some r) :
  E env (.call 12 [.str a0W]) [] = some (b22 a0W r):=by
 unfold a7t at h
 refine J8 rfl Tryz.func12 rfl rfl ?_
 refine eSG (oB 2 rfl (eSG (oA 1 rfl ?_)))
 obtain ⟨⟨l2,c3,a4⟩,g1,h⟩:=o8 h
 refine V4 rfl rfl rfl rfl rfl (b4C g1) rfl ?_
 refine oB 6 rfl (G7 ?_)
 refine O6 [384] rfl ?_
 refine oC rfl rfl (oC rfl rfl (oC rfl rfl (J4 rfl ?_)))
 refine oD ?_
 refine C8 (oC rfl rfl (oC rfl rfl (oC rfl rfl (oC rfl rfl ?_))))
 refine a0g ?_
 refine ⟨rfl,?_⟩
 cases h
 exact A9 ⟨_,_,_,rfl,rfl,rfl⟩
theorem a3Z {d9:List Tok} {at2:Int} {j6:Int} {r:Int} (h:a0M d9 at2 j6 = some r) :
  E env (.call 13 [.ptr 0 0]) (hP A7 d9 at2 j6) = some (a9s d9 at2 j6 r):=by
 unfold a0M at h
 refine J8 rfl Tryz.func13 rfl rfl ?_
 refine eSG (oB 1 rfl (G7 (eSG (oB 10 rfl ?_))))
 refine eI rfl h (fun h=>?_) fun h=>?_
 ·refine eSG (oA 8 rfl ?_)
  obtain ⟨x4,g2,h⟩:=o8 h
  refine a1J a8F g2 rfl rfl rfl rfl rfl rfl rfl rfl ?_
  refine oB 3 rfl ?_
  cases h
  exact A9 ⟨_,_,_,rfl,rfl,rfl⟩
 ·refine D9 (eSG (oB 5 rfl ?_))
  cases h
  exact A9 ⟨_,_,_,rfl,rfl,rfl⟩
theorem F5 {n1:Int} {b5w:Int} {b4L:Str} {a7z:List Tok} {at5:Int} {b5M:Int} {r:Bool} (h:u6 n1 b5w b4L a7z at5 b5M = some r) :
  E env (.call 35 [.ptr 0 0,.i n1,.i b5w,.str b4L]) (hP A7 a7z at5 b5M) = some (b0j n1 b5w b4L a7z at5 b5M r):=by
 unfold u6 at h
 refine J8 rfl Tryz.func35 rfl rfl ?_
 refine eSG (oB 1 rfl (G7 (eSG (oB 12 rfl ?_))))
 refine eI rfl h (fun h=>?_) fun h=>?_
 ·refine eSG (oB 1 rfl ?_)
  cases h
  exact A9 ⟨_,_,_,rfl,rfl,rfl⟩
 ·refine D9 (G7 ?_)
  refine O6 [0,0] rfl ?_
  refine oC rfl rfl (oC rfl rfl (oC rfl rfl (oC rfl rfl (oC rfl rfl (oC rfl rfl (oC rfl rfl (oC rfl rfl (oC rfl rfl (oC rfl rfl (J4 rfl ?_))))))))))
  obtain ⟨x7,g2,h⟩:=o8 h
  refine a1J a8F g2 rfl rfl rfl rfl rfl rfl rfl rfl ?_
  refine C8 (J4 rfl ?_)
  refine a8h (c:=[.i x7.kind,.str x7.text,.i x7.at_,.i x7.len]) rfl rfl rfl rfl rfl rfl rfl ?_
  refine C8 (oC rfl rfl (oC rfl rfl ?_))
  refine a0g ?_
  refine ⟨rfl,?_⟩
  refine eSG (oA 5 rfl ?_)
  refine J5 rfl rfl rfl (fun g3=>?_) (fun g3=>?_)
  ·replace h:=a0K h g3
   refine oA 3 rfl ?_
   refine J5 rfl rfl rfl (fun g4=>?_) (fun g4=>?_)
   ·replace h:=a0K h g4
    refine oB 7 rfl ?_
    cases h
    exact A9 ⟨_,_,_,rfl,rfl,rfl⟩
   ·replace h:=a0J h g4
    refine oB 7 rfl ?_
    cases h
    exact A9 ⟨_,_,_,rfl,rfl,rfl⟩
  ·replace h:=a0J h g3
   refine oB 10 rfl ?_
   cases h
   exact A9 ⟨_,_,_,rfl,rfl,rfl⟩
theorem D8 {op1:Int} {C9:List Tok} {at3:Int} {I8:Int} {r:Int} (h:E5 op1 C9 at3 I8 = some r) :
  E env (.call 39 [.ptr 0 0,.i op1]) (hP A7 C9 at3 I8) = some (a9u op1 C9 at3 I8 r):=by
 unfold E5 at h
 refine J8 rfl Tryz.func39 rfl rfl ?_
 refine eSG (oB 1 rfl (eSG (oA 2 rfl ?_)))
 obtain ⟨r5,g1,h⟩:=o8 h
 refine a99 rfl rfl rfl (a8E rfl rfl rfl (a3Z g1) rfl rfl rfl) ?_
 refine oD ?_
 refine oB 1 rfl ?_
 cases h
 exact A9 ⟨_,_,_,rfl,rfl,rfl⟩
theorem a3Y {d9:List Tok} {at2:Int} {j6:Int} {r:Rs Empty Int} (h:Y4 d9 at2 j6 = some r) :
  E env (.call 74 [.ptr 0 0]) (hP A7 d9 at2 j6) = some (a9r d9 at2 j6 r):=by
 unfold Y4 at h
 refine J8 rfl Tryz.func74 rfl rfl ?_
 refine q9 (oA 1 rfl ?_)
 obtain ⟨r4,g1,h⟩:=o8 h
 refine a99 rfl rfl rfl (a8E rfl rfl rfl (a3Z g1) rfl rfl rfl) ?_
 refine oD ?_
 refine oD ?_
 refine oA 1 rfl ?_
 refine b7u rfl rfl rfl ?_
 cases h
 exact ⟨_,_,rfl,rfl⟩
theorem K6 {a7h:Int} {C9:List Tok} {at3:Int} {I8:Int} {r:Rs Tok Int} (h:L9 a7h C9 at3 I8 = some r) :
  E env (.call 71 [.ptr 0 0,.i a7h]) (hP A7 C9 at3 I8) = some (a8X a7h C9 at3 I8 r):=by
 unfold L9 at h
 refine J8 rfl Tryz.func71 rfl rfl ?_
 refine eSG (oB 1 rfl (G7 (eSG (oA 2 rfl ?_))))
 obtain ⟨r5,g1,h⟩:=o8 h
 refine oV (F5 g1) ?_
 refine oB 1 rfl ?_
 refine eI rfl h (fun h=>?_) fun h=>?_
 ·refine q9 (oA 1 rfl ?_)
  rcases o7 h with ⟨x,_,_⟩ | ⟨at6,g3,h⟩
  ·exact x.elim
  ·refine oW (a3Y g3) ?_
   cases h
   exact ⟨_,_,rfl,rfl⟩
 ·refine D9 (G7 ?_)
  refine O6 [0,0] rfl ?_
  refine oC rfl rfl (oC rfl rfl (oC rfl rfl (oC rfl rfl (oC rfl rfl (oC rfl rfl (oC rfl rfl (oC rfl rfl (J4 rfl ?_))))))))
  obtain ⟨x7,g4,h⟩:=o8 h
  refine a1J a8F g4 rfl rfl rfl rfl rfl rfl rfl rfl ?_
  refine C8 (J4 rfl ?_)
  refine a8h (c:=[.i x7.kind,.str x7.text,.i x7.at_,.i x7.len]) rfl rfl rfl rfl rfl rfl rfl ?_
  refine C8 (oC rfl rfl (oC rfl rfl ?_))
  refine a0g ?_
  refine ⟨rfl,?_⟩
  refine eSG (oB 8 rfl (eSG (oB 2 rfl ?_)))
  cases h
  exact A9 ⟨_,_,_,rfl,rfl,rfl⟩
theorem F4 {d9:List Tok} {at2:Int} {j6:Int} {r:Rs Str Int} (h:G9 d9 at2 j6 = some r) :
  E env (.call 41 [.ptr 0 0]) (hP A7 d9 at2 j6) = some (a7I d9 at2 j6 r):=by
 unfold G9 at h
 refine J8 rfl Tryz.func41 rfl rfl ?_
 refine eSG (oB 1 rfl (eSG (oA 1 rfl ?_)))
 rcases o7 h with ⟨r4,g1,h⟩ | ⟨at5,g2,h⟩
 ·refine oV (K6 g1) ?_
  refine oB 2 rfl ?_
  cases h
  exact A9 ⟨_,_,_,rfl,rfl,rfl⟩
 ·refine oW (K6 g2) ?_
  cases h
  exact ⟨_,_,rfl,rfl⟩
theorem J3 {a8A:Str} {C9:List Tok} {at3:Int} {I8:Int} {r:Bool × Int} (h:F3 a8A C9 at3 I8 = some r) :
  E env (.call 40 [.ptr 0 0,.str a8A]) (hP A7 C9 at3 I8) = some (a9O a8A C9 at3 I8 r):=by
 unfold F3 at h
 refine J8 rfl Tryz.func40 rfl rfl ?_
 refine eSG (oB 1 rfl (G7 (eSG (oA 2 rfl ?_))))
 obtain ⟨r5,g1,h⟩:=o8 h
 refine oV (F5 g1) ?_
 refine oB 1 rfl ?_
 refine eI rfl h (fun h=>?_) fun h=>?_
 ·refine eSG (oB 1 rfl ?_)
  cases h
  exact A9 ⟨_,_,_,rfl,rfl,rfl⟩
 ·refine D9 (eSG (oB 8 rfl (eSG (oB 1 rfl ?_))))
  cases h
  exact A9 ⟨_,_,_,rfl,rfl,rfl⟩
theorem H9 {a8A:Str} {C9:List Tok} {at3:Int} {I8:Int} {r:Rs Int (Int × Int)} (h:J2 a8A C9 at3 I8 = some r) :
  E env (.call 45 [.ptr 0 0,.str a8A]) (hP A7 C9 at3 I8) = some (a7M a8A C9 at3 I8 r):=by
 unfold J2 at h
 refine J8 rfl Tryz.func45 rfl rfl ?_
 refine eSG (oA 2 rfl ?_)
 obtain ⟨⟨r5,at6⟩,g1,h⟩:=o8 h
 refine oV (J3 g1) ?_
 refine oB 1 rfl ?_
 refine eI rfl h (fun h=>?_) fun h=>?_
 ·refine q9 (oA 1 rfl ?_)
  rcases o7 h with ⟨x,_,_⟩ | ⟨at7,g3,h⟩
  ·exact x.elim
  ·refine oW (a3Y g3) ?_
   cases h
   exact ⟨_,_,rfl,rfl⟩
 ·refine D9 ?_
  cases h
  exact ⟨_,_,_,rfl,rfl,rfl⟩
theorem D7 {a8v:Str} {C9:List Tok} {at3:Int} {I8:Int} {r:Bool × Int} (h:w9 a8v C9 at3 I8 = some r) :
  E env (.call 72 [.ptr 0 0,.str a8v]) (hP A7 C9 at3 I8) = some (a9w a8v C9 at3 I8 r):=by
 unfold w9 at h
 refine J8 rfl Tryz.func72 rfl rfl ?_
 refine eSG (oB 1 rfl (G7 (eSG (oA 2 rfl ?_))))
 obtain ⟨r5,g1,h⟩:=o8 h
 refine oV (F5 g1) ?_
 refine oB 1 rfl ?_
 refine eI rfl h (fun h=>?_) fun h=>?_
 ·refine eSG (oB 1 rfl ?_)
  cases h
  exact A9 ⟨_,_,_,rfl,rfl,rfl⟩
 ·refine D9 (eSG (oB 8 rfl (eSG (oB 1 rfl ?_))))
  cases h
  exact A9 ⟨_,_,_,rfl,rfl,rfl⟩
theorem o6 {a8v:Str} {C9:List Tok} {at3:Int} {I8:Int} {r:Rs Int (Int × Int)} (h:p9 a8v C9 at3 I8 = some r) :
  E env (.call 65 [.ptr 0 0,.str a8v]) (hP A7 C9 at3 I8) = some (a9y a8v C9 at3 I8 r):=by
 unfold p9 at h
 refine J8 rfl Tryz.func65 rfl rfl ?_
 refine eSG (oA 2 rfl ?_)
 obtain ⟨⟨r5,at6⟩,g1,h⟩:=o8 h
 refine oV (D7 g1) ?_
 refine oB 1 rfl ?_
 refine eI rfl h (fun h=>?_) fun h=>?_
 ·refine q9 (oA 1 rfl ?_)
  rcases o7 h with ⟨x,_,_⟩ | ⟨at7,g3,h⟩
  ·exact x.elim
  ·refine oW (a3Y g3) ?_
   cases h
   exact ⟨_,_,rfl,rfl⟩
 ·refine D9 ?_
  cases h
  exact ⟨_,_,_,rfl,rfl,rfl⟩
theorem a11 {n:Nat} {d9:List Tok} {at2:Int} {j6:Int} {r:Rs (List Nod × Int) (Int × Int)} (h:a1j n d9 at2 j6 = some r) :
  E env (.call 66 [.ptr 0 0]) (hP A7 d9 at2 j6) = some (a8j d9 at2 j6 r):=by
 unfold a1j at h
 refine J8 rfl Tryz.func66 rfl rfl ?_
 refine eSG (oB 1 rfl (eSG (oB 1 rfl (G7 (eSG (oA 1 rfl ?_))))))
 obtain ⟨⟨r4,at5⟩,g1,h⟩:=o8 h
 refine oV (D7 g1) ?_
 refine oB 1 rfl ?_
 refine eI rfl h (fun h=>?_) fun h=>?_
 ·refine eSG (oB 1 rfl ?_)
  cases h
  exact A9 ⟨_,_,_,rfl,rfl,rfl⟩
 ·refine D9 ?_
  refine F7 ?_
  refine U0 rfl ?_
  obtain ⟨yq,hq⟩:∃ y,y = r:=⟨_,rfl⟩
  rw [<- hq] at h ⊢
  clear hq
  revert yq
  refine Z7 (fun m (x:List Nod × Int)=>a0D n j6 d9 m x.1 x.2) (fun x=>[(0,.ptr 0 0),(3,.st 1 F6 x.1)]) (fun x=>[(0,.row [.sl A7 d9,.i x.2,.i j6]),(1,.tip (tpe 10 (List.length x.1)) (List.length x.1))]) _ (fun _=>rfl) (fun m4 x y ih h=>?_) n (([]:List Nod),at5)
  obtain ⟨l501,a1c⟩:=x
  rw [a0D] at h
  refine F7 ?_
  refine eSG (oA 1 rfl ?_)
  obtain ⟨at6,g3,h⟩:=o8 h
  refine oV (D8 g3) ?_
  refine oB 2 rfl (eSG (oA 1 rfl ?_))
  rcases o7 h with ⟨r7,g4,h⟩ | ⟨at11,g8,h⟩
  ·refine oV (F4 g4) ?_
   refine oB 2 rfl (eSG (oA 3 rfl ?_))
   obtain ⟨l8,g5,h⟩:=o8 h
   refine oP Q6 g5 ?_
   refine oB 1 rfl (eSG (oA 1 rfl ?_))
   obtain ⟨⟨r9,at10⟩,g6,h⟩:=o8 h
   refine oV (D7 g6) ?_
   refine oB 1 rfl ?_
   refine eI rfl h (fun h=>?_) fun h=>?_
   ·refine eSG (oB 2 rfl ?_)
    cases h
    exact A9 ⟨_,_,_,rfl,rfl,rfl⟩
   ·refine D9 ?_
    exact ⟨_,_,rfl,ih (_,_) _ h⟩
  ·refine oW (F4 g8) ?_
   cases h
   exact ⟨_,_,rfl,rfl⟩
theorem R8 {n:Nat} {d9:List Tok} {at2:Int} {j6:Int} {r:Rs (List Nod × Int) (Int × Int)} (h:P8 n d9 at2 j6 = some r) :
  E env (.call 42 [.ptr 0 0]) (hP A7 d9 at2 j6) = some (a4p d9 at2 j6 r):=by
 unfold P8 at h
 refine J8 rfl Tryz.func42 rfl rfl ?_
 refine eSG (oB 1 rfl (eSG (oB 1 rfl (G7 (eSG (oA 1 rfl ?_))))))
 obtain ⟨⟨r4,at5⟩,g1,h⟩:=o8 h
 refine oV (D7 g1) ?_
 refine oB 1 rfl ?_
 refine eI rfl h (fun h=>?_) fun h=>?_
 ·refine eSG (oB 1 rfl ?_)
  cases h
  exact A9 ⟨_,_,_,rfl,rfl,rfl⟩
 ·refine D9 ?_
  obtain ⟨y3,g4,h⟩:=P6 h
  refine Q5 (KR:=fun r=>a2w env 42 1 Tryz.f42.results.toList (a4p d9 at2 j6 r)) y3 (fun z15=>[(0,.ptr 0 0),(3,.st 1 F6 z15.1)]) (fun z15=>[(0,.row [.sl A7 d9,.i z15.2,.i j6]),(1,.tip (tpe 10 (List.length z15.1)) (List.length z15.1))]) rfl ?_ (fun z15 hx=>?_) (fun r res hz hr hn=>?_)
  ·replace h:=g4
   clear g4
   refine F7 ?_
   refine U0 rfl ?_
   revert y3
   refine Z7 (fun m (x:List Nod × Int)=>V8 n j6 d9 m x.1 x.2) (fun x=>[(0,.ptr 0 0),(3,.st 1 F6 x.1)]) (fun x=>[(0,.row [.sl A7 d9,.i x.2,.i j6]),(1,.tip (tpe 10 (List.length x.1)) (List.length x.1))]) _ (fun _=>rfl) (fun m4 x y ih h=>?_) n (([]:List Nod),at5)
   obtain ⟨b1Y,a2Z⟩:=x
   rw [V8] at h
   refine F7 ?_
   refine eSG (oA 1 rfl ?_)
   obtain ⟨at6,g5,h⟩:=o8 h
   refine oV (D8 g5) ?_
   refine oB 2 rfl (eSG (oA 1 rfl ?_))
   rcases o7 h with ⟨r7,g6,h⟩ | ⟨at15,g12,h⟩
   ·refine oV (F4 g6) ?_
    refine oB 2 rfl (eSG (oA 1 rfl ?_))
    rcases o7 h with ⟨⟨r8,at9⟩,g7,h⟩ | ⟨⟨at13,at14⟩,g11,h⟩
    ·refine oV (a11 g7) ?_
     refine oB 2 rfl (eSG (oA 3 rfl ?_))
     obtain ⟨l10,g8,h⟩:=o8 h
     refine oP Q6 g8 ?_
     refine oB 1 rfl (eSG (oA 1 rfl ?_))
     obtain ⟨⟨r11,at12⟩,g9,h⟩:=o8 h
     refine oV (D7 g9) ?_
     refine oB 1 rfl ?_
     refine eI rfl h (fun h=>?_) fun h=>?_
     ·refine R5 ?_
      cases h
      exact ⟨_,rfl,rfl⟩
     ·refine D9 ?_
      exact ⟨_,_,rfl,ih (_,_) _ h⟩
    ·refine oW (a11 g11) ?_
     cases h
     exact ⟨_,rfl,_,_,rfl,rfl⟩
   ·refine oW (F4 g12) ?_
    cases h
    exact ⟨_,rfl,_,_,rfl,rfl⟩
  ·subst hx
   obtain ⟨a8M,a3P⟩:=z15
   refine eSG (oA 1 rfl ?_)
   rcases o7 h with ⟨at16,g13,h⟩ | ⟨⟨at17,at18⟩,g14,h⟩
   ·refine oV (o6 g13) ?_
    refine C8 (eSG (oB 2 rfl ?_))
    cases h
    exact A9 ⟨_,_,_,rfl,rfl,rfl⟩
   ·refine oW (o6 g14) ?_
    cases h
    exact ⟨_,_,rfl,rfl⟩
  ·subst hz
   rcases res with ⟨_ | _ | _ | _,_,_⟩ <;> first | exact absurd rfl hn | exact hr.elim | (cases h; exact hr)
theorem b4l {a5Y:Str} {X4:List Typ} {r:Typ} (h:a4N a5Y X4 = some r) :
  E env (.call 94 [.str a5Y,.sl p8 X4]) [] = some (a9n a5Y X4 r):=by
 unfold a4N at h
 refine J8 rfl Tryz.func94 rfl rfl ?_
 refine eSG (oB 1 rfl (eSG (oB 1 rfl ?_)))
 obtain ⟨y1,g2,h⟩:=P6 h
 refine Q5 (KR:=fun r=>a2w env 94 0 Tryz.f94.results.toList (a9n a5Y X4 r)) y1 (fun z17=>[(0,.str a5Y),(1,.sl p8 X4),(4,.ptr 0 0),(5,.i z17)]) (fun z17=>[(0,.row [.i 0,.str [],.i 0,.st 1 p8 ([]:List Typ)]),(1,.tip 0 0)]) rfl ?_ (fun z17 hx=>?_) (fun r res hz hr hn=>?_)
 ·replace h:=g2
  clear g2
  refine F7 ?_
  obtain ⟨y3,g4,h⟩:=o8 h
  refine a10 [(0,.str a5Y),(1,.sl p8 X4),(4,.ptr 0 0),(5,.i 6),(6,.bool y3)] [(0,.row [.i 0,.str [],.i 0,.st 1 p8 ([]:List Typ)]),(1,.tip 0 0)] rfl ?_ ?_
  ·replace h:=g4
   clear g4
   refine q9 (oA 4 rfl ?_)
   refine J5 rfl rfl rfl (fun g5=>?_) (fun g5=>?_)
   ·replace h:=a0K h g5
    refine oB 4 rfl ?_
    cases h
    exact rfl
   ·replace h:=a0J h g5
    refine oB 4 rfl ?_
    cases h
    exact rfl
  ·obtain ⟨x505,rfl⟩:∃ q,q = y3:=⟨_,rfl⟩
   refine eI rfl h (fun h=>?_) fun h=>?_
   ·refine eSG (oA 1 rfl ?_)
    refine oD ?_
    refine oB 1 rfl ?_
    cases h
    exact A9 ⟨_,rfl,_,_,_,rfl,rfl,rfl⟩
   ·obtain ⟨y7,g8,h⟩:=o8 h
    refine a10 [(0,.str a5Y),(1,.sl p8 X4),(4,.ptr 0 0),(5,.i 6),(16,.bool y7)] [(0,.row [.i 0,.str [],.i 0,.st 1 p8 ([]:List Typ)]),(1,.tip 0 0)] rfl ?_ ?_
    ·replace h:=g8
     clear g8
     refine q9 (oA 4 rfl ?_)
     refine J5 rfl rfl rfl (fun g9=>?_) (fun g9=>?_)
     ·replace h:=a0K h g9
      refine oB 4 rfl ?_
      cases h
      exact rfl
     ·replace h:=a0J h g9
      refine oB 4 rfl ?_
      cases h
      exact rfl
    ·obtain ⟨b4T,rfl⟩:∃ q,q = y7:=⟨_,rfl⟩
     refine eI rfl h (fun h=>?_) fun h=>?_
     ·refine eSG (oA 1 rfl ?_)
      refine oD ?_
      refine oB 1 rfl ?_
      cases h
      exact A9 ⟨_,rfl,_,_,_,rfl,rfl,rfl⟩
     ·refine eSG (oB 4 rfl ?_)
      refine eI rfl h (fun h=>?_) fun h=>?_
      ·refine D9 ?_
       cases h
       exact ⟨_,rfl,rfl⟩
      ·refine eSG (oB 3 rfl ?_)
       refine eI rfl h (fun h=>?_) fun h=>?_
       ·refine q9 (oB 1 rfl ?_)
        cases h
        exact ⟨_,rfl,rfl⟩
       ·refine eSG (oB 3 rfl ?_)
        refine eI rfl h (fun h=>?_) fun h=>?_
        ·refine q9 (oB 1 rfl ?_)
         cases h
         exact ⟨_,rfl,rfl⟩
        ·refine eSG (oB 3 rfl ?_)
         refine eI rfl h (fun h=>?_) fun h=>?_
         ·refine q9 (oB 1 rfl ?_)
          cases h
          exact ⟨_,rfl,rfl⟩
         ·refine eSG (oB 3 rfl ?_)
          refine eI rfl h (fun h=>?_) fun h=>?_
          ·refine q9 (oB 1 rfl ?_)
           cases h
           exact ⟨_,rfl,rfl⟩
          ·refine D9 ?_
           cases h
           exact ⟨_,rfl,rfl⟩
 ·subst hx
  obtain ⟨b3i,rfl⟩:∃ q,q = z17:=⟨_,rfl⟩
  refine G7 (eSG (oB 2 rfl ?_))
  refine eI rfl h (fun h=>?_) fun h=>?_
  ·refine eSG (oA 1 rfl ?_)
   refine oD ?_
   refine oB 1 rfl ?_
   cases h
   exact A9 ⟨_,_,_,rfl,rfl,rfl⟩
  ·refine D9 (eSG (oA 3 rfl ?_))
   refine oD ?_
   refine oB 1 rfl ?_
   cases h
   exact A9 ⟨_,_,_,rfl,rfl,rfl⟩
 ·subst hz
  rcases res with ⟨_ | _ | _ | _,_,_⟩ <;> first | exact absurd rfl hn | exact hr.elim | (cases h; exact hr)
end Go.Proofs.YtmhiojdkjokccaaGreatDoor
namespace Go.Proofs.YtmhiojdkjokccaaGreatDoor
open Go Go.Vm
structure D5.Ok (Φ:D5):Prop where
 D6:∀ {d9:List Tok} {at2:Int} {j6:Int} {r:Rs (Typ × Int) (Int × Int)},Φ.D6 d9 at2 j6 = some r -> E env (.call 68 [.ptr 0 0]) (hP A7 d9 at2 j6) = some (a1N d9 at2 j6 r)
 Q0:∀ {inExpr1:Bool} {C9:List Tok} {at3:Int} {I8:Int} {r:Rs (Typ × Int) (Int × Int)},Φ.Q0 inExpr1 C9 at3 I8 = some r -> E env (.call 89 [.ptr 0 0,.bool inExpr1]) (hP A7 C9 at3 I8) = some (a0P inExpr1 C9 at3 I8 r)
theorem a9x (n:Nat) {Φ:D5} (hΦ:Φ.Ok) {d9:List Tok} {at2:Int} {j6:Int} {r:Rs (Typ × Int) (Int × Int)} (h:a2o n Φ d9 at2 j6 = some r) :
  E env (.call 68 [.ptr 0 0]) (hP A7 d9 at2 j6) = some (a1N d9 at2 j6 r):=by
 unfold a2o at h
 refine J8 rfl Tryz.func68 rfl rfl ?_
 refine eSG (oB 1 rfl (G7 (eSG (oA 1 rfl ?_))))
 obtain ⟨⟨r4,at5⟩,g1,h⟩:=o8 h
 refine oV (J3 g1) ?_
 refine C8 ?_
 refine eI rfl h (fun h=>?_) fun h=>?_
 ·refine eSG (oA 1 rfl ?_)
  rcases o7 h with ⟨r6,g3,h⟩ | ⟨at7,g4,h⟩
  ·refine oV (F4 g3) ?_
   refine oD ?_
   refine oB 1 rfl ?_
   cases h
   exact A9 ⟨_,_,_,rfl,rfl,rfl⟩
  ·refine oW (F4 g4) ?_
   cases h
   exact ⟨_,_,rfl,rfl⟩
 ·refine D9 (G7 (eSG (oA 1 rfl ?_)))
  obtain ⟨⟨r8,at9⟩,g5,h⟩:=o8 h
  refine oV (D7 g5) ?_
  refine oB 1 rfl ?_
  refine eI rfl h (fun h=>?_) fun h=>?_
  ·refine eSG (oA 1 rfl ?_)
   rcases o7 h with ⟨⟨r10,at11⟩,g7,h⟩ | ⟨⟨at12,at13⟩,g8,h⟩
   ·obtain ⟨r10_0,r10_1,r10_2,r10_3⟩:=r10
    refine oV (hΦ.Q0 g7) ?_
    refine oB 1 rfl ?_
    cases h
    exact A9 ⟨_,_,_,rfl,rfl,rfl⟩
   ·refine oW (hΦ.Q0 g8) ?_
    cases h
    exact ⟨_,_,rfl,rfl⟩
  ·refine D9 (eSG (oB 1 rfl ?_))
   obtain ⟨y9,g10,h⟩:=P6 h
   refine Q5 (KR:=fun r=>a2w env 68 1 Tryz.f68.results.toList (a1N d9 at2 j6 r)) y9 (fun z31=>[(0,.ptr 0 0),(2,.ptr 1 0),(3,.st 2 p8 z31.1)]) (fun z31=>[(0,.row [.sl A7 d9,.i z31.2,.i j6]),(1,.row [.i 0,.str [],.i 0,.st 3 p8 ([]:List Typ)]),(2,.tip (tpe 4 (List.length z31.1)) (List.length z31.1)),(3,.tip 0 0)]) rfl ?_ (fun z31 hx=>?_) (fun r res hz hr hn=>?_)
   ·replace h:=g10
    clear g10
    refine eSG (oA 1 rfl ?_)
    obtain ⟨⟨r14,at15⟩,g11,h⟩:=o8 h
    refine oV (D7 g11) ?_
    refine oB 1 rfl ?_
    refine eI rfl h (fun h=>?_) fun h=>?_
    ·refine eSG (oA 2 rfl ?_)
     rcases o7 h with ⟨⟨r16,at17⟩,g13,h⟩ | ⟨⟨at29,at30⟩,g25,h⟩
     ·obtain ⟨r16_0,r16_1,r16_2,r16_3⟩:=r16
      refine oV (hΦ.D6 g13) ?_
      refine oA 1 rfl ?_
      obtain ⟨l18,g14,h⟩:=o8 h
      refine a6h a9E g14 rfl rfl rfl rfl (.inl rfl) rfl rfl rfl rfl rfl rfl rfl rfl rfl rfl (a6z (a1I rfl) rfl) rfl rfl rfl ?_
      refine oB 1 rfl ?_
      obtain ⟨y15,g16,h⟩:=a3a h
      refine Q5 (KR:=fun r=>a2w env 68 1 Tryz.f68.results.toList (a1N d9 at2 j6 r)) y15 (fun z24=>[(0,.ptr 0 0),(2,.ptr 1 0),(3,.st 2 p8 z24.1)]) (fun z24=>[(0,.row [.sl A7 d9,.i z24.2,.i j6]),(1,.row [.i 0,.str [],.i 0,.st 3 p8 ([]:List Typ)]),(2,.tip (tpe 4 (List.length z24.1)) (List.length z24.1)),(3,.tip 0 0)]) rfl ?_ (fun z24 hx=>?_) (fun r res hz hr hn=>?_)
      ·replace h:=g16
       clear g16
       refine F7 ?_
       refine U0 rfl ?_
       revert y15
       refine Z7 (fun m (x:List Typ × Int)=>R7 n Φ j6 d9 m x.1 x.2) (fun x=>[(0,.ptr 0 0),(2,.ptr 1 0),(3,.st 2 p8 x.1)]) (fun x=>[(0,.row [.sl A7 d9,.i x.2,.i j6]),(1,.row [.i 0,.str [],.i 0,.st 3 p8 ([]:List Typ)]),(2,.tip (tpe 4 (List.length x.1)) (List.length x.1)),(3,.tip 0 0)]) _ (fun _=>rfl) (fun m8 x y ih h=>?_) n (l18,at17)
       obtain ⟨b5Z,a3P⟩:=x
       rw [R7] at h
       refine G7 (eSG (oA 1 rfl ?_))
       obtain ⟨⟨r19,at20⟩,g17,h⟩:=o8 h
       refine oV (D7 g17) ?_
       refine C8 ?_
       refine eI rfl h (fun h=>?_) fun h=>?_
       ·refine D9 ?_
        refine F7 ?_
        refine q9 (oA 2 rfl ?_)
        rcases o7 h with ⟨⟨r21,at22⟩,g19,h⟩ | ⟨⟨at24,at25⟩,g21,h⟩
        ·obtain ⟨r21_0,r21_1,r21_2,r21_3⟩:=r21
         refine oV (hΦ.D6 g19) ?_
         refine oA 1 rfl ?_
         obtain ⟨l23,g20,h⟩:=o8 h
         refine oP a9E g20 ?_
         refine oB 1 rfl ?_
         exact ⟨_,_,rfl,ih (_,_) _ h⟩
        ·refine oW (hΦ.D6 g21) ?_
         cases h
         exact ⟨_,rfl,_,_,rfl,rfl⟩
       ·refine R5 ?_
        cases h
        exact ⟨_,rfl,rfl⟩
      ·subst hx
       obtain ⟨b8R,a3Q⟩:=z24
       refine q9 (oA 1 rfl ?_)
       rcases o7 h with ⟨at26,g22,h⟩ | ⟨⟨at27,at28⟩,g23,h⟩
       ·refine oV (o6 g22) ?_
        refine C8 ?_
        cases h
        exact ⟨_,rfl,rfl⟩
       ·refine oW (o6 g23) ?_
        cases h
        exact ⟨_,rfl,_,_,rfl,rfl⟩
      ·subst hz
       rcases res with ⟨_ | _ | _ | _,_,_⟩ <;> first | exact absurd rfl hn | exact hr.elim | (cases h; exact ⟨_,rfl,hr⟩)
     ·refine oW (hΦ.D6 g25) ?_
      cases h
      exact ⟨_,rfl,_,_,rfl,rfl⟩
    ·refine D9 ?_
     cases h
     exact ⟨_,rfl,rfl⟩
   ·subst hx
    obtain ⟨b8O,a5j⟩:=z31
    refine eSG (oA 1 rfl ?_)
    rcases o7 h with ⟨at31,g26,h⟩ | ⟨⟨at37,at38⟩,g30,h⟩
    ·refine oV (o6 g26) ?_
     refine C8 (eSG (oA 2 rfl ?_))
     rcases o7 h with ⟨⟨r32,at33⟩,g27,h⟩ | ⟨⟨at35,at36⟩,g29,h⟩
     ·obtain ⟨r32_0,r32_1,r32_2,r32_3⟩:=r32
      refine oV (hΦ.D6 g27) ?_
      refine oA 1 rfl ?_
      obtain ⟨l34,g28,h⟩:=o8 h
      refine oP a9E g28 ?_
      refine oB 1 rfl (eSG (oA 1 rfl ?_))
      refine oD ?_
      refine oB 1 rfl ?_
      cases h
      exact A9 ⟨_,_,_,rfl,rfl,rfl⟩
     ·refine oW (hΦ.D6 g29) ?_
      cases h
      exact ⟨_,_,rfl,rfl⟩
    ·refine oW (o6 g30) ?_
     cases h
     exact ⟨_,_,rfl,rfl⟩
   ·subst hz
    rcases res with ⟨_ | _ | _ | _,_,_⟩ <;> first | exact absurd rfl hn | exact hr.elim | (cases h; exact hr)
theorem a8V (n:Nat) {Φ:D5} (hΦ:Φ.Ok) {inExpr1:Bool} {C9:List Tok} {at3:Int} {I8:Int} {r:Rs (Typ × Int) (Int × Int)} (h:a0l n Φ inExpr1 C9 at3 I8 = some r) :
  E env (.call 89 [.ptr 0 0,.bool inExpr1]) (hP A7 C9 at3 I8) = some (a0P inExpr1 C9 at3 I8 r):=by
 unfold a0l at h
 refine J8 rfl Tryz.func89 rfl rfl ?_
 refine eSG (oB 1 rfl (eSG (oA 1 rfl ?_)))
 rcases o7 h with ⟨r5,g1,h⟩ | ⟨at28,g33,h⟩
 ·refine oV (F4 g1) ?_
  refine oB 1 rfl (eSG (oB 1 rfl ?_))
  obtain ⟨y2,g3,h⟩:=P6 h
  refine Q5 (KR:=fun r=>a2w env 89 1 Tryz.f89.results.toList (a0P inExpr1 C9 at3 I8 r)) y2 (fun z32=>[(0,.ptr 0 0),(1,.bool inExpr1),(4,.ptr 1 0),(5,.str r5),(6,.st 2 p8 z32.1)]) (fun z32=>[(0,.row [.sl A7 C9,.i z32.2,.i I8]),(1,.row [.i 0,.str [],.i 0,.st 3 p8 ([]:List Typ)]),(2,.tip (tpe 4 (List.length z32.1)) (List.length z32.1)),(3,.tip 0 0)]) rfl ?_ (fun z32 hx=>?_) (fun r res hz hr hn=>?_)
  ·replace h:=g3
   clear g3
   refine eSG (oA 1 rfl ?_)
   obtain ⟨⟨r6,at7⟩,g4,h⟩:=o8 h
   refine oV (D7 g4) ?_
   refine C8 ?_
   refine eI rfl h (fun h=>?_) fun h=>?_
   ·refine eSG (oA 2 rfl ?_)
    rcases o7 h with ⟨⟨r8,at9⟩,g6,h⟩ | ⟨⟨at21,at22⟩,g18,h⟩
    ·obtain ⟨r8_0,r8_1,r8_2,r8_3⟩:=r8
     refine oV (hΦ.D6 g6) ?_
     refine oA 1 rfl ?_
     obtain ⟨l10,g7,h⟩:=o8 h
     refine a6h a9E g7 rfl rfl rfl rfl (.inl rfl) rfl rfl rfl rfl rfl rfl rfl rfl rfl rfl (a6z (a1I rfl) rfl) rfl rfl rfl ?_
     refine oB 1 rfl ?_
     obtain ⟨y8,g9,h⟩:=a3a h
     refine Q5 (KR:=fun r=>a2w env 89 1 Tryz.f89.results.toList (a0P inExpr1 C9 at3 I8 r)) y8 (fun z17=>[(0,.ptr 0 0),(1,.bool inExpr1),(4,.ptr 1 0),(5,.str r5),(6,.st 2 p8 z17.1)]) (fun z17=>[(0,.row [.sl A7 C9,.i z17.2,.i I8]),(1,.row [.i 0,.str [],.i 0,.st 3 p8 ([]:List Typ)]),(2,.tip (tpe 4 (List.length z17.1)) (List.length z17.1)),(3,.tip 0 0)]) rfl ?_ (fun z17 hx=>?_) (fun r res hz hr hn=>?_)
     ·replace h:=g9
      clear g9
      refine F7 ?_
      refine U0 rfl ?_
      revert y8
      refine Z7 (fun m (x:List Typ × Int)=>a07 n Φ I8 C9 m x.1 x.2) (fun x=>[(0,.ptr 0 0),(1,.bool inExpr1),(4,.ptr 1 0),(5,.str r5),(6,.st 2 p8 x.1)]) (fun x=>[(0,.row [.sl A7 C9,.i x.2,.i I8]),(1,.row [.i 0,.str [],.i 0,.st 3 p8 ([]:List Typ)]),(2,.tip (tpe 4 (List.length x.1)) (List.length x.1)),(3,.tip 0 0)]) _ (fun _=>rfl) (fun m5 x y ih h=>?_) n (l10,at9)
      obtain ⟨b5Y,a1c⟩:=x
      rw [a07] at h
      refine G7 (eSG (oA 1 rfl ?_))
      obtain ⟨⟨r11,at12⟩,g10,h⟩:=o8 h
      refine oV (D7 g10) ?_
      refine C8 ?_
      refine eI rfl h (fun h=>?_) fun h=>?_
      ·refine D9 ?_
       refine F7 ?_
       refine q9 (oA 2 rfl ?_)
       rcases o7 h with ⟨⟨r13,at14⟩,g12,h⟩ | ⟨⟨at16,at17⟩,g14,h⟩
       ·obtain ⟨r13_0,r13_1,r13_2,r13_3⟩:=r13
        refine oV (hΦ.D6 g12) ?_
        refine oA 1 rfl ?_
        obtain ⟨l15,g13,h⟩:=o8 h
        refine oP a9E g13 ?_
        refine oB 1 rfl ?_
        exact ⟨_,_,rfl,ih (_,_) _ h⟩
       ·refine oW (hΦ.D6 g14) ?_
        cases h
        exact ⟨_,rfl,_,_,rfl,rfl⟩
      ·refine R5 ?_
       cases h
       exact ⟨_,rfl,rfl⟩
     ·subst hx
      obtain ⟨b8P,a2D⟩:=z17
      refine q9 (oA 1 rfl ?_)
      rcases o7 h with ⟨at18,g15,h⟩ | ⟨⟨at19,at20⟩,g16,h⟩
      ·refine oV (o6 g15) ?_
       refine C8 ?_
       cases h
       exact ⟨_,rfl,rfl⟩
      ·refine oW (o6 g16) ?_
       cases h
       exact ⟨_,rfl,_,_,rfl,rfl⟩
     ·subst hz
      rcases res with ⟨_ | _ | _ | _,_,_⟩ <;> first | exact absurd rfl hn | exact hr.elim | (cases h; exact ⟨_,rfl,hr⟩)
    ·refine oW (hΦ.D6 g18) ?_
     cases h
     exact ⟨_,rfl,_,_,rfl,rfl⟩
   ·refine D9 ?_
    cases h
    exact ⟨_,rfl,rfl⟩
  ·subst hx
   obtain ⟨b8N,a2Z⟩:=z32
   refine eSG (oA 2 rfl ?_)
   obtain ⟨r23,g19,h⟩:=o8 h
   obtain ⟨r23_0,r23_1,r23_2,r23_3⟩:=r23
   refine V4 rfl rfl rfl rfl rfl (b4l g19) rfl ?_
   refine oB 2 rfl ?_
   obtain ⟨y20,g21,h⟩:=P6 h
   refine Q5 (KR:=fun r=>a2w env 89 1 Tryz.f89.results.toList (a0P inExpr1 C9 at3 I8 r)) y20 (fun z31=>[(4,.ptr 1 0),(7,.ptr 2 0)]) (fun z31=>[(0,.row [.sl A7 C9,.i z31.1,.i I8]),(1,.row [.i 0,.str [],.i 0,.st 3 p8 ([]:List Typ)]),(2,.row [.i z31.2.kind,.str z31.2.name,.i z31.2.n,.sl p8 z31.2.args]),(3,.tip 0 0)]) rfl ?_ (fun z31 hx=>?_) (fun r res hz hr hn=>?_)
   ·replace h:=g21
    clear g21
    refine F7 ?_
    refine U0 rfl ?_
    revert y20
    refine Z7 (fun m (x:Int × Typ)=>M9 n Φ inExpr1 I8 C9 m x.1 x.2) (fun x=>[(0,.ptr 0 0),(1,.bool inExpr1),(4,.ptr 1 0),(7,.ptr 2 0)]) (fun x=>[(0,.row [.sl A7 C9,.i x.1,.i I8]),(1,.row [.i 0,.str [],.i 0,.st 3 p8 ([]:List Typ)]),(2,.row [.i x.2.kind,.str x.2.name,.i x.2.n,.sl p8 x.2.args]),(3,.tip 0 0)]) _ (fun _=>rfl) (fun m9 x y ih h=>?_) n (a2Z,(Typ.mk r23_0 r23_1 r23_2 r23_3))
    obtain ⟨b0q,n533⟩:=x
    obtain ⟨n533_0,n533_1,n533_2,n533_3⟩:=n533
    rw [M9] at h
    refine G7 ?_
    obtain ⟨y22,g23,h⟩:=o8 h
    refine a10 [(0,.ptr 0 0),(1,.bool inExpr1),(4,.ptr 1 0),(7,.ptr 2 0),(38,.bool y22)] [(0,.row [.sl A7 C9,.i b0q,.i I8]),(1,.row [.i 0,.str [],.i 0,.st 3 p8 ([]:List Typ)]),(2,.row [.i n533_0,.str n533_1,.i n533_2,.sl p8 n533_3]),(3,.tip 0 0)] rfl ?_ ?_
    ·replace h:=g23
     clear g23
     refine q9 (oA 1 rfl ?_)
     obtain ⟨r24,g24,h⟩:=o8 h
     refine oV (F5 g24) ?_
     refine oA 1 rfl ?_
     refine J5 rfl rfl rfl (fun g25=>?_) (fun g25=>?_)
     ·replace h:=a0K h g25
      refine oA 2 rfl ?_
      refine J5 rfl rfl rfl (fun g26=>?_) (fun g26=>?_)
      ·replace h:=a0K h g26
       refine oA 1 rfl ?_
       obtain ⟨r25,g27,h⟩:=o8 h
       refine oV (F5 g27) ?_
       refine oB 3 rfl ?_
       cases h
       exact rfl
      ·replace h:=a0J h g26
       refine oB 5 rfl ?_
       cases h
       exact rfl
     ·replace h:=a0J h g25
      refine oB 7 rfl ?_
      cases h
      exact rfl
    ·obtain ⟨x546,rfl⟩:∃ q,q = y22:=⟨_,rfl⟩
     refine eI rfl h (fun h=>?_) fun h=>?_
     ·refine D9 ?_
      refine F7 ?_
      refine eSG (oB 8 rfl ?_)
      refine O6 [2] rfl ?_
      refine oC rfl rfl (oC rfl rfl (oC rfl rfl (J4 rfl ?_)))
      rcases o7 h with ⟨r26,g29,h⟩ | ⟨at27,g30,h⟩
      ·refine oV (F4 g29) ?_
       refine C8 (J4 rfl ?_)
       refine oD ?_
       refine C8 (oC rfl rfl ?_)
       refine a0g ?_
       refine ⟨rfl,?_⟩
       exact ⟨_,_,rfl,ih (_,_) _ h⟩
      ·refine oW (F4 g30) ?_
       refine ⟨rfl,rfl,_,_,rfl,?_⟩
       cases h
       exact ⟨_,rfl,_,_,rfl,rfl⟩
     ·refine R5 ?_
      cases h
      exact ⟨_,rfl,rfl⟩
   ·subst hx
    obtain ⟨b1a,n550⟩:=z31
    obtain ⟨n550_0,n550_1,n550_2,n550_3⟩:=n550
    refine eSG (oB 2 rfl ?_)
    cases h
    exact A9 ⟨_,_,_,rfl,rfl,rfl⟩
   ·subst hz
    rcases res with ⟨_ | _ | _ | _,_,_⟩ <;> first | exact absurd rfl hn | exact hr.elim | (cases h; exact hr)
  ·subst hz
   rcases res with ⟨_ | _ | _ | _,_,_⟩ <;> first | exact absurd rfl hn | exact hr.elim | (cases h; exact hr)
 ·refine oW (F4 g33) ?_
  cases h
  exact ⟨_,_,rfl,rfl⟩
theorem D5.ok:∀ n,(D5.fs n).Ok
 | 0=>⟨(fun h=>by cases h),(fun h=>by cases h)⟩
 | n + 1=>⟨(fun h=>a9x n (D5.ok n) h),(fun h=>a8V n (D5.ok n) h)⟩
theorem I7 {n:Nat} {d9:List Tok} {at2:Int} {j6:Int} {r:Rs (Typ × Int) (Int × Int)} (h:D6 n d9 at2 j6 = some r) :
  E env (.call 68 [.ptr 0 0]) (hP A7 d9 at2 j6) = some (a1N d9 at2 j6 r):=(D5.ok n).D6 h
theorem a5M {n:Nat} {inExpr1:Bool} {C9:List Tok} {at3:Int} {I8:Int} {r:Rs (Typ × Int) (Int × Int)} (h:Q0 n inExpr1 C9 at3 I8 = some r) :
  E env (.call 89 [.ptr 0 0,.bool inExpr1]) (hP A7 C9 at3 I8) = some (a0P inExpr1 C9 at3 I8 r):=(D5.ok n).Q0 h
theorem a2u {n:Nat} {d9:List Tok} {at2:Int} {j6:Int} {r:Rs (List Nod × Int) (Int × Int)} (h:a1D n d9 at2 j6 = some r) :
  E env (.call 69 [.ptr 0 0]) (hP A7 d9 at2 j6) = some (a5e d9 at2 j6 r):=by
 unfold a1D at h
 refine J8 rfl Tryz.func69 rfl rfl ?_
 refine eSG (oB 1 rfl (eSG (oB 1 rfl (G7 (eSG (oA 1 rfl ?_))))))
 obtain ⟨⟨r4,at5⟩,g1,h⟩:=o8 h
 refine oV (J3 g1) ?_
 refine oB 1 rfl ?_
 refine eI rfl h (fun h=>?_) fun h=>?_
 ·refine eSG (oB 1 rfl ?_)
  cases h
  exact A9 ⟨_,_,_,rfl,rfl,rfl⟩
 ·refine D9 ?_
  refine F7 ?_
  refine U0 rfl ?_
  obtain ⟨yq,hq⟩:∃ y,y = r:=⟨_,rfl⟩
  rw [<- hq] at h ⊢
  clear hq
  revert yq
  refine Z7 (fun m (x:List Nod × Int)=>a0q n j6 d9 m x.1 x.2) (fun x=>[(0,.ptr 0 0),(3,.st 1 F6 x.1)]) (fun x=>[(0,.row [.sl A7 d9,.i x.2,.i j6]),(1,.tip (tpe 10 (List.length x.1)) (List.length x.1))]) _ (fun _=>rfl) (fun m4 x y ih h=>?_) n (([]:List Nod),at5)
  obtain ⟨l509,a5j⟩:=x
  rw [a0q] at h
  refine F7 ?_
  refine eSG (oA 1 rfl ?_)
  obtain ⟨at6,g3,h⟩:=o8 h
  refine oV (D8 g3) ?_
  refine oB 2 rfl (eSG (oA 1 rfl ?_))
  rcases o7 h with ⟨⟨r7,at8⟩,g4,h⟩ | ⟨⟨at23,at24⟩,g19,h⟩
  ·obtain ⟨r7_0,r7_1,r7_2,r7_3⟩:=r7
   refine oV (I7 g4) ?_
   refine oB 2 rfl ?_
   obtain ⟨y5,g6,h⟩:=P6 h
   refine Q5 (KR:=fun r=>a2w env 69 1 Tryz.f69.results.toList (a5e d9 at2 j6 r)) y5 (fun z18=>[(0,.ptr 0 0),(3,.st 1 F6 l509),(4,.ptr 2 0)]) (fun z18=>[(0,.row [.sl A7 d9,.i z18.1,.i j6]),(1,.tip (tpe 10 (List.length l509)) (List.length l509)),(2,.row (c0 12 z18.2.1 z18.2.2.1 r7_0 r7_1 r7_2 (.sl p8 r7_3) (.st 3 p8 z18.2.2.2) (.st 4 F6 ([]:List Nod)) at6)),(3,.tip (tpe 4 (List.length z18.2.2.2)) (List.length z18.2.2.2)),(4,.tip 0 0)]) rfl ?_ (fun z18 hx=>?_) (fun r res hz hr hn=>?_)
   ·replace h:=g6
    clear g6
    refine eSG (oA 1 rfl ?_)
    obtain ⟨⟨r9,at10⟩,g7,h⟩:=o8 h
    refine oV (D7 g7) ?_
    refine C8 ?_
    refine eI rfl h (fun h=>?_) fun h=>?_
    ·refine eSG (oB 2 rfl (q9 (oA 1 rfl ?_)))
     rcases o7 h with ⟨⟨r11,at12⟩,g9,h⟩ | ⟨⟨at13,at14⟩,g10,h⟩
     ·obtain ⟨r11_0,r11_1,r11_2,r11_3⟩:=r11
      refine oV (I7 g9) ?_
      refine oB 3 rfl ?_
      cases h
      exact ⟨_,rfl,rfl⟩
     ·refine oW (I7 g10) ?_
      cases h
      exact ⟨_,rfl,_,_,rfl,rfl⟩
    ·refine eSG (oA 1 rfl ?_)
     rcases o7 h with ⟨at15,g11,h⟩ | ⟨⟨at18,at19⟩,g14,h⟩
     ·refine oV (o6 g11) ?_
      refine C8 (eSG (oB 2 rfl (q9 (oA 1 rfl ?_))))
      rcases o7 h with ⟨r16,g12,h⟩ | ⟨at17,g13,h⟩
      ·refine oV (F4 g12) ?_
       refine oB 2 rfl ?_
       cases h
       exact ⟨_,rfl,rfl⟩
      ·refine oW (F4 g13) ?_
       cases h
       exact ⟨_,rfl,_,_,rfl,rfl⟩
     ·refine oW (o6 g14) ?_
      cases h
      exact ⟨_,rfl,_,_,rfl,rfl⟩
   ·subst hx
    obtain ⟨a5W,s518,n519,ts520⟩:=z18
    refine eSG (oA 3 rfl ?_)
    obtain ⟨l20,g15,h⟩:=o8 h
    refine oP Q6 g15 ?_
    refine oB 1 rfl (eSG (oA 1 rfl ?_))
    obtain ⟨⟨r21,at22⟩,g16,h⟩:=o8 h
    refine oV (D7 g16) ?_
    refine oB 1 rfl ?_
    refine eI rfl h (fun h=>?_) fun h=>?_
    ·refine eSG (oB 2 rfl ?_)
     cases h
     exact A9 ⟨_,_,_,rfl,rfl,rfl⟩
    ·refine D9 ?_
     exact ⟨_,_,rfl,ih (_,_) _ h⟩
   ·subst hz
    rcases res with ⟨_ | _ | _ | _,_,_⟩ <;> first | exact absurd rfl hn | exact hr.elim | (cases h; exact hr)
  ·refine oW (I7 g19) ?_
   cases h
   exact ⟨_,_,rfl,rfl⟩
theorem F9 {d9:List Tok} {at2:Int} {j6:Int} {r:Rs Str Int} (h:K4 d9 at2 j6 = some r) :
  E env (.call 73 [.ptr 0 0]) (hP A7 d9 at2 j6) = some (a9t d9 at2 j6 r):=by
 unfold K4 at h
 refine J8 rfl Tryz.func73 rfl rfl ?_
 refine eSG (oB 1 rfl (eSG (oA 1 rfl ?_)))
 rcases o7 h with ⟨r4,g1,h⟩ | ⟨at5,g2,h⟩
 ·refine oV (K6 g1) ?_
  refine oB 2 rfl ?_
  cases h
  exact A9 ⟨_,_,_,rfl,rfl,rfl⟩
 ·refine oW (K6 g2) ?_
  cases h
  exact ⟨_,_,rfl,rfl⟩
theorem a2a {n:Nat} {d9:List Tok} {at2:Int} {j6:Int} {r:Rs (List Nod × Int) (Int × Int)} (h:X6 n d9 at2 j6 = some r) :
  E env (.call 87 [.ptr 0 0]) (hP A7 d9 at2 j6) = some (a4P d9 at2 j6 r):=by
 unfold X6 at h
 refine J8 rfl Tryz.func87 rfl rfl ?_
 refine eSG (oB 1 rfl (eSG (oB 1 rfl (eSG (oA 1 rfl ?_)))))
 rcases o7 h with ⟨at4,g1,h⟩ | ⟨⟨at27,at28⟩,g25,h⟩
 ·refine oV (o6 g1) ?_
  refine C8 (G7 (eSG (oA 1 rfl ?_)))
  obtain ⟨⟨r5,at6⟩,g2,h⟩:=o8 h
  refine oV (D7 g2) ?_
  refine C8 ?_
  refine eI rfl h (fun h=>?_) fun h=>?_
  ·refine eSG (oB 1 rfl ?_)
   cases h
   exact A9 ⟨_,_,_,rfl,rfl,rfl⟩
  ·refine D9 ?_
   obtain ⟨y4,g5,h⟩:=P6 h
   refine Q5 (KR:=fun r=>a2w env 87 1 Tryz.f87.results.toList (a4P d9 at2 j6 r)) y4 (fun z24=>[(0,.ptr 0 0),(3,.st 1 F6 z24.1)]) (fun z24=>[(0,.row [.sl A7 d9,.i z24.2,.i j6]),(1,.tip (tpe 10 (List.length z24.1)) (List.length z24.1))]) rfl ?_ (fun z24 hx=>?_) (fun r res hz hr hn=>?_)
   ·replace h:=g5
    clear g5
    refine F7 ?_
    refine U0 rfl ?_
    revert y4
    refine Z7 (fun m (x:List Nod × Int)=>a0b n j6 d9 m x.1 x.2) (fun x=>[(0,.ptr 0 0),(3,.st 1 F6 x.1)]) (fun x=>[(0,.row [.sl A7 d9,.i x.2,.i j6]),(1,.tip (tpe 10 (List.length x.1)) (List.length x.1))]) _ (fun _=>rfl) (fun m5 x y ih h=>?_) n (([]:List Nod),at6)
    obtain ⟨a8M,a3P⟩:=x
    rw [a0b] at h
    refine F7 ?_
    refine eSG (oA 1 rfl ?_)
    obtain ⟨at7,g6,h⟩:=o8 h
    refine oV (D8 g6) ?_
    refine oB 2 rfl ?_
    obtain ⟨y7,g8,h⟩:=o8 h
    refine a10 [(0,.ptr 0 0),(3,.st 1 F6 a8M),(4,.ptr 2 0)] [(0,.row [.sl A7 d9,.i y7.1,.i j6]),(1,.tip (tpe 10 (List.length a8M)) (List.length a8M)),(2,.row [.i 10,.str [],.i y7.2,.i 0,.str [],.i 0,.sl p8 ([]:List Typ),.st 3 p8 ([]:List Typ),.st 4 F6 ([]:List Nod),.i at7]),(3,.tip 0 0),(4,.tip 0 0)] rfl ?_ ?_
    ·replace h:=g8
     clear g8
     refine eSG (oA 1 rfl ?_)
     obtain ⟨⟨r8,at9⟩,g9,h⟩:=o8 h
     refine oV (J3 g9) ?_
     refine C8 ?_
     refine eI rfl h (fun h=>?_) fun h=>?_
     ·refine q9 (oB 2 rfl ?_)
      cases h
      exact rfl
     ·refine eSG (oA 1 rfl ?_)
      obtain ⟨⟨r10,at11⟩,g11,h⟩:=o8 h
      refine oV (J3 g11) ?_
      refine C8 ?_
      refine eI rfl h (fun h=>?_) fun h=>?_
      ·refine q9 (oB 2 rfl ?_)
       cases h
       exact rfl
      ·refine D9 ?_
       cases h
       exact rfl
    ·obtain ⟨b46,n517⟩:=y7
     refine eSG (oA 1 rfl ?_)
     rcases o7 h with ⟨r12,g13,h⟩ | ⟨at23,g21,h⟩
     ·refine oV (F9 g13) ?_
      refine oB 2 rfl (eSG (oA 1 rfl ?_))
      rcases o7 h with ⟨at13,g14,h⟩ | ⟨⟨at21,at22⟩,g20,h⟩
      ·refine oV (o6 g14) ?_
       refine C8 (eSG (oA 1 rfl ?_))
       rcases o7 h with ⟨⟨r14,at15⟩,g15,h⟩ | ⟨⟨at19,at20⟩,g19,h⟩
       ·obtain ⟨r14_0,r14_1,r14_2,r14_3⟩:=r14
        refine oV (I7 g15) ?_
        refine oB 2 rfl (eSG (oA 3 rfl ?_))
        obtain ⟨l16,g16,h⟩:=o8 h
        refine oP Q6 g16 ?_
        refine oB 1 rfl (eSG (oA 1 rfl ?_))
        obtain ⟨⟨r17,at18⟩,g17,h⟩:=o8 h
        refine oV (D7 g17) ?_
        refine oB 1 rfl ?_
        refine eI rfl h (fun h=>?_) fun h=>?_
        ·refine R5 ?_
         cases h
         exact ⟨_,rfl,rfl⟩
        ·refine D9 ?_
         exact ⟨_,_,rfl,ih (_,_) _ h⟩
       ·refine oW (I7 g19) ?_
        cases h
        exact ⟨_,rfl,_,_,rfl,rfl⟩
      ·refine oW (o6 g20) ?_
       cases h
       exact ⟨_,rfl,_,_,rfl,rfl⟩
     ·refine oW (F9 g21) ?_
      cases h
      exact ⟨_,rfl,_,_,rfl,rfl⟩
   ·subst hx
    obtain ⟨l508,a9B⟩:=z24
    refine eSG (oA 1 rfl ?_)
    rcases o7 h with ⟨at24,g22,h⟩ | ⟨⟨at25,at26⟩,g23,h⟩
    ·refine oV (o6 g22) ?_
     refine C8 (eSG (oB 2 rfl ?_))
     cases h
     exact A9 ⟨_,_,_,rfl,rfl,rfl⟩
    ·refine oW (o6 g23) ?_
     cases h
     exact ⟨_,_,rfl,rfl⟩
   ·subst hz
    rcases res with ⟨_ | _ | _ | _,_,_⟩ <;> first | exact absurd rfl hn | exact hr.elim | (cases h; exact hr)
 ·refine oW (o6 g25) ?_
  cases h
  exact ⟨_,_,rfl,rfl⟩
theorem a2b {n:Nat} {d9:List Tok} {at2:Int} {j6:Int} {r:Rs (Typ × Int) (Int × Int)} (h:U5 n d9 at2 j6 = some r) :
  E env (.call 88 [.ptr 0 0]) (hP A7 d9 at2 j6) = some (a8o d9 at2 j6 r):=by
 unfold U5 at h
 refine J8 rfl Tryz.func88 rfl rfl ?_
 refine eSG (oB 1 rfl (G7 (eSG (oA 1 rfl ?_))))
 obtain ⟨⟨r4,at5⟩,g1,h⟩:=o8 h
 refine oV (D7 g1) ?_
 refine C8 ?_
 refine eI rfl h (fun h=>?_) fun h=>?_
 ·refine eSG (oA 1 rfl ?_)
  rcases o7 h with ⟨⟨r6,at7⟩,g3,h⟩ | ⟨⟨at8,at9⟩,g4,h⟩
  ·obtain ⟨r6_0,r6_1,r6_2,r6_3⟩:=r6
   refine oV (I7 g3) ?_
   refine oB 1 rfl ?_
   cases h
   exact A9 ⟨_,_,_,rfl,rfl,rfl⟩
  ·refine oW (I7 g4) ?_
   cases h
   exact ⟨_,_,rfl,rfl⟩
 ·refine D9 (eSG ?_)
  refine oD ?_
  refine oB 1 rfl ?_
  cases h
  exact A9 ⟨_,_,_,rfl,rfl,rfl⟩
end Go.Proofs.YtmhiojdkjokccaaGreatDoor
namespace Go.Proofs.YtmhiojdkjokccaaGreatDoor
open Go Go.Vm
theorem a1p {n:Nat} {d9:List Tok} {at2:Int} {j6:Int} {r:Rs (Str × Typ × List Nod × Int × Int) (Int × Int)} (h:a0d n d9 at2 j6 = some r) :
  E env (.call 67 [.ptr 0 0]) (hP A7 d9 at2 j6) = some (a4a d9 at2 j6 r):=by
 unfold a0d at h
 refine J8 rfl Tryz.func67 rfl rfl ?_
 refine eSG (oB 1 rfl (eSG (oA 1 rfl ?_)))
 obtain ⟨at4,g1,h⟩:=o8 h
 refine oV (D8 g1) ?_
 refine oB 2 rfl (eSG (oA 1 rfl ?_))
 rcases o7 h with ⟨at5,g2,h⟩ | ⟨⟨at40,at41⟩,g28,h⟩
 ·refine oV (H9 g2) ?_
  refine C8 (eSG (oA 1 rfl ?_))
  rcases o7 h with ⟨r6,g3,h⟩ | ⟨at39,g27,h⟩
  ·refine oV (F9 g3) ?_
   refine oB 2 rfl (eSG (oA 1 rfl ?_))
   rcases o7 h with ⟨⟨r7,at8⟩,g4,h⟩ | ⟨⟨at37,at38⟩,g26,h⟩
   ·refine oV (R8 g4) ?_
    refine oB 2 rfl (G7 ?_)
    refine O6 [256] rfl ?_
    refine oC rfl rfl (oC rfl rfl (oC rfl rfl (J4 rfl ?_)))
    rcases o7 h with ⟨⟨r9,at10⟩,g5,h⟩ | ⟨⟨at35,at36⟩,g25,h⟩
    ·refine oV (a2a g5) ?_
     refine C8 (J4 rfl ?_)
     obtain ⟨l11,g6,h⟩:=o8 h
     refine b1r Q6 g6 rfl rfl rfl rfl rfl rfl rfl rfl rfl rfl rfl rfl rfl rfl (a6z (a1I (a1S.length Q6 _).symm) rfl) rfl rfl rfl ?_
     refine C8 (oC rfl rfl (oC rfl rfl ?_))
     refine a0g ?_
     refine ⟨rfl,?_⟩
     refine eSG (oA 1 rfl ?_)
     obtain ⟨at12,g7,h⟩:=o8 h
     refine oV (D8 g7) ?_
     refine oB 2 rfl ?_
     obtain ⟨y8,g9,h⟩:=P6 h
     refine Q5 (KR:=fun r=>a2w env 67 1 Tryz.f67.results.toList (a4a d9 at2 j6 r)) y8 (fun z24=>[(0,.ptr 0 0),(2,.ptr 1 0),(3,.ptr 2 0)]) (fun z24=>[(0,.row [.sl A7 d9,.i z24.1,.i j6]),(1,.row [.i 0,.str [],.i 0,.i 0,.str [],.i 0,.st 3 p8 ([]:List Typ),.st 4 p8 ([]:List Typ),.st 5 F6 ([]:List Nod),.i 0]),(2,.row [.i 7,.str r6,.i 0,.i 0,.str [],.i 0,.sl p8 ([]:List Typ),.st 6 p8 ([]:List Typ),.st 7 F6 z24.2,.i at4]),(3,.tip 0 0),(4,.tip 0 0),(5,.tip 0 0),(6,.tip 0 0),(7,.tip (tpe 10 (List.length z24.2)) (List.length z24.2))]) rfl ?_ (fun z24 hx=>?_) (fun r res hz hr hn=>?_)
     ·replace h:=g9
      clear g9
      refine eSG (oA 1 rfl ?_)
      obtain ⟨⟨r13,at14⟩,g10,h⟩:=o8 h
      refine oV (J3 g10) ?_
      refine C8 ?_
      refine eI rfl h (fun h=>?_) fun h=>?_
      ·refine eSG (oA 1 rfl ?_)
       rcases o7 h with ⟨at15,g12,h⟩ | ⟨⟨at24,at25⟩,g18,h⟩
       ·refine oV (o6 g12) ?_
        refine C8 (eSG (oA 1 rfl ?_))
        rcases o7 h with ⟨⟨r16,at17⟩,g13,h⟩ | ⟨⟨at22,at23⟩,g17,h⟩
        ·obtain ⟨r16_0,r16_1,r16_2,r16_3⟩:=r16
         refine oV (I7 g13) ?_
         refine oB 2 rfl (eSG (oA 1 rfl ?_))
         rcases o7 h with ⟨at18,g14,h⟩ | ⟨⟨at20,at21⟩,g16,h⟩
         ·refine oV (o6 g14) ?_
          refine C8 (q9 (oA 4 rfl ?_))
          obtain ⟨l19,g15,h⟩:=o8 h
          refine oP Q6 g15 ?_
          refine oB 2 rfl ?_
          cases h
          exact ⟨_,rfl,rfl⟩
         ·refine oW (o6 g16) ?_
          cases h
          exact ⟨_,rfl,_,_,rfl,rfl⟩
        ·refine oW (I7 g17) ?_
         cases h
         exact ⟨_,rfl,_,_,rfl,rfl⟩
       ·refine oW (o6 g18) ?_
        cases h
        exact ⟨_,rfl,_,_,rfl,rfl⟩
      ·refine D9 ?_
       cases h
       exact ⟨_,rfl,rfl⟩
     ·subst hx
      obtain ⟨a3P,l508⟩:=z24
      refine eSG (oA 1 rfl ?_)
      rcases o7 h with ⟨⟨r26,at27⟩,g19,h⟩ | ⟨⟨at33,at34⟩,g23,h⟩
      ·obtain ⟨r26_0,r26_1,r26_2,r26_3⟩:=r26
       refine oV (a2b g19) ?_
       refine oB 2 rfl (G7 ?_)
       refine O6 [2] rfl ?_
       refine oC rfl rfl (oC rfl rfl (oC rfl rfl (J4 rfl ?_)))
       rcases o7 h with ⟨⟨r28,at29⟩,g20,h⟩ | ⟨⟨at31,at32⟩,g22,h⟩
       ·refine oV (a2u g20) ?_
        refine C8 (J4 rfl ?_)
        obtain ⟨l30,g21,h⟩:=o8 h
        refine b1r Q6 g21 rfl rfl rfl rfl rfl rfl rfl rfl rfl rfl rfl rfl rfl rfl (a6z (a1I (a1S.length Q6 _).symm) rfl) rfl rfl rfl ?_
        refine C8 (oC rfl rfl (oC rfl rfl ?_))
        refine a0g ?_
        refine ⟨rfl,?_⟩
        refine eSG (oB 2 rfl ?_)
        cases h
        exact A9 ⟨_,_,_,rfl,rfl,rfl⟩
       ·refine oW (a2u g22) ?_
        refine ⟨rfl,rfl,_,_,rfl,?_⟩
        cases h
        exact ⟨_,_,rfl,rfl⟩
      ·refine oW (a2b g23) ?_
       cases h
       exact ⟨_,_,rfl,rfl⟩
     ·subst hz
      rcases res with ⟨_ | _ | _ | _,_,_⟩ <;> first | exact absurd rfl hn | exact hr.elim | (cases h; exact hr)
    ·refine oW (a2a g25) ?_
     refine ⟨rfl,rfl,_,_,rfl,?_⟩
     cases h
     exact ⟨_,_,rfl,rfl⟩
   ·refine oW (R8 g26) ?_
    cases h
    exact ⟨_,_,rfl,rfl⟩
  ·refine oW (F9 g27) ?_
   cases h
   exact ⟨_,_,rfl,rfl⟩
 ·refine oW (H9 g28) ?_
  cases h
  exact ⟨_,_,rfl,rfl⟩
theorem a4A {n:Nat} {d9:List Tok} {at2:Int} {j6:Int} {r:Rs (Nod × Int) (Int × Int)} (h:a1v n d9 at2 j6 = some r) :
  E env (.call 36 [.ptr 0 0]) (hP A7 d9 at2 j6) = some (a2x d9 at2 j6 r):=by
 unfold a1v at h
 refine J8 rfl Tryz.func36 rfl rfl ?_
 refine eSG (oB 1 rfl (eSG (oA 1 rfl ?_)))
 obtain ⟨at4,g1,h⟩:=o8 h
 refine oV (D8 g1) ?_
 refine oB 2 rfl (eSG (oA 1 rfl ?_))
 rcases o7 h with ⟨at5,g2,h⟩ | ⟨⟨at38,at39⟩,g32,h⟩
 ·refine oV (H9 g2) ?_
  refine C8 (eSG (oA 1 rfl ?_))
  rcases o7 h with ⟨r6,g3,h⟩ | ⟨at37,g31,h⟩
  ·refine oV (F4 g3) ?_
   refine oB 2 rfl (eSG (oA 1 rfl ?_))
   rcases o7 h with ⟨at7,g4,h⟩ | ⟨⟨at35,at36⟩,g30,h⟩
   ·refine oV (o6 g4) ?_
    refine C8 ?_
    obtain ⟨y5,g6,h⟩:=P6 h
    refine Q5 (KR:=fun r=>a2w env 36 1 Tryz.f36.results.toList (a2x d9 at2 j6 r)) y5 (fun z29=>[(0,.ptr 0 0),(2,.ptr 1 0),(3,.ptr 2 0)]) (fun z29=>[(0,.row [.sl A7 d9,.i z29.1,.i j6]),(1,.row [.i 0,.str [],.i 0,.i 0,.str [],.i 0,.st 3 p8 ([]:List Typ),.st 4 p8 ([]:List Typ),.st 5 F6 ([]:List Nod),.i 0]),(2,.row [.i 5,.str r6,.i 0,.i 0,.str [],.i 0,.sl p8 ([]:List Typ),.st 6 p8 ([]:List Typ),.st 7 F6 z29.2,.i at4]),(3,.tip 0 0),(4,.tip 0 0),(5,.tip 0 0),(6,.tip 0 0),(7,.tip (tpe 10 (List.length z29.2)) (List.length z29.2))]) rfl ?_ (fun z29 hx=>?_) (fun r res hz hr hn=>?_)
    ·replace h:=g6
     clear g6
     refine F7 ?_
     refine U0 rfl ?_
     revert y5
     refine Z7 (fun m (x:Int × List Nod)=>V9 n j6 d9 m x.1 x.2) (fun x=>[(0,.ptr 0 0),(2,.ptr 1 0),(3,.ptr 2 0)]) (fun x=>[(0,.row [.sl A7 d9,.i x.1,.i j6]),(1,.row [.i 0,.str [],.i 0,.i 0,.str [],.i 0,.st 3 p8 ([]:List Typ),.st 4 p8 ([]:List Typ),.st 5 F6 ([]:List Nod),.i 0]),(2,.row [.i 5,.str r6,.i 0,.i 0,.str [],.i 0,.sl p8 ([]:List Typ),.st 6 p8 ([]:List Typ),.st 7 F6 x.2,.i at4]),(3,.tip 0 0),(4,.tip 0 0),(5,.tip 0 0),(6,.tip 0 0),(7,.tip (tpe 10 (List.length x.2)) (List.length x.2))]) _ (fun _=>rfl) (fun m5 x y ih h=>?_) n (at7,([]:List Nod))
     obtain ⟨a2Y,b1Y⟩:=x
     rw [V9] at h
     refine G7 (eSG (oA 1 rfl ?_))
     obtain ⟨r8,g7,h⟩:=o8 h
     refine oV (F5 g7) ?_
     refine C8 ?_
     refine eI rfl h (fun h=>?_) fun h=>?_
     ·refine D9 ?_
      refine F7 ?_
      refine eSG (oA 1 rfl ?_)
      obtain ⟨at9,g9,h⟩:=o8 h
      refine oV (D8 g9) ?_
      refine oB 2 rfl (eSG (oB 8 rfl (eSG (oA 1 rfl ?_))))
      rcases o7 h with ⟨r10,g10,h⟩ | ⟨at19,g16,h⟩
      ·refine oV (F4 g10) ?_
       refine oB 2 rfl (eSG (oA 1 rfl ?_))
       rcases o7 h with ⟨⟨r11,at12⟩,g11,h⟩ | ⟨⟨at17,at18⟩,g15,h⟩
       ·refine oV (a11 g11) ?_
        refine oB 2 rfl (eSG (oA 1 rfl ?_))
        rcases o7 h with ⟨at13,g12,h⟩ | ⟨⟨at15,at16⟩,g14,h⟩
        ·refine oV (o6 g12) ?_
         refine C8 (q9 (oA 4 rfl ?_))
         obtain ⟨l14,g13,h⟩:=o8 h
         refine oP Q6 g13 ?_
         refine oB 2 rfl ?_
         exact ⟨_,_,rfl,ih (_,_) _ h⟩
        ·refine oW (o6 g14) ?_
         cases h
         exact ⟨_,rfl,_,_,rfl,rfl⟩
       ·refine oW (a11 g15) ?_
        cases h
        exact ⟨_,rfl,_,_,rfl,rfl⟩
      ·refine oW (F4 g16) ?_
       cases h
       exact ⟨_,rfl,_,_,rfl,rfl⟩
     ·refine R5 ?_
      cases h
      exact ⟨_,rfl,rfl⟩
    ·subst hx
     obtain ⟨a2D,l512⟩:=z29
     obtain ⟨y17,g18,h⟩:=P6 h
     refine Q5 (KR:=fun r=>a2w env 36 1 Tryz.f36.results.toList (a2x d9 at2 j6 r)) y17 (fun z28=>[(0,.ptr 0 0),(2,.ptr 1 0),(3,.ptr 2 0)]) (fun z28=>[(0,.row [.sl A7 d9,.i z28.1,.i j6]),(1,.row [.i 0,.str [],.i 0,.i 0,.str [],.i 0,.st 3 p8 ([]:List Typ),.st 4 p8 ([]:List Typ),.st 5 F6 ([]:List Nod),.i 0]),(2,.row [.i 5,.str r6,.i 0,.i 0,.str [],.i 0,.sl p8 ([]:List Typ),.st 6 p8 ([]:List Typ),.st 7 F6 z28.2,.i at4]),(3,.tip 0 0),(4,.tip 0 0),(5,.tip 0 0),(6,.tip 0 0),(7,.tip (tpe 10 (List.length z28.2)) (List.length z28.2))]) rfl ?_ (fun z28 hx=>?_) (fun r res hz hr hn=>?_)
     ·replace h:=g18
      clear g18
      refine F7 ?_
      refine U0 rfl ?_
      revert y17
      refine Z7 (fun m (x:Int × List Nod)=>U9 n j6 d9 m x.1 x.2) (fun x=>[(0,.ptr 0 0),(2,.ptr 1 0),(3,.ptr 2 0)]) (fun x=>[(0,.row [.sl A7 d9,.i x.1,.i j6]),(1,.row [.i 0,.str [],.i 0,.i 0,.str [],.i 0,.st 3 p8 ([]:List Typ),.st 4 p8 ([]:List Typ),.st 5 F6 ([]:List Nod),.i 0]),(2,.row [.i 5,.str r6,.i 0,.i 0,.str [],.i 0,.sl p8 ([]:List Typ),.st 6 p8 ([]:List Typ),.st 7 F6 x.2,.i at4]),(3,.tip 0 0),(4,.tip 0 0),(5,.tip 0 0),(6,.tip 0 0),(7,.tip (tpe 10 (List.length x.2)) (List.length x.2))]) _ (fun _=>rfl) (fun m12 x y ih h=>?_) n (a2D,l512)
      obtain ⟨a9j,b2V⟩:=x
      rw [U9] at h
      refine G7 (eSG (oA 1 rfl ?_))
      obtain ⟨r20,g19,h⟩:=o8 h
      refine oV (F5 g19) ?_
      refine C8 ?_
      refine eI rfl h (fun h=>?_) fun h=>?_
      ·refine D9 ?_
       refine F7 ?_
       refine eSG (oA 1 rfl ?_)
       rcases o7 h with ⟨⟨s21,t22,l23,at24,at25⟩,g21,h⟩ | ⟨⟨at30,at31⟩,g25,h⟩
       ·obtain ⟨t22_0,t22_1,t22_2,t22_3⟩:=t22
        refine oV (a1p g21) ?_
        refine oB 2 rfl (eSG (oA 1 rfl ?_))
        rcases o7 h with ⟨at26,g22,h⟩ | ⟨⟨at28,at29⟩,g24,h⟩
        ·refine oV (o6 g22) ?_
         refine C8 (q9 (oA 4 rfl ?_))
         obtain ⟨l27,g23,h⟩:=o8 h
         refine oP Q6 g23 ?_
         refine oB 2 rfl ?_
         exact ⟨_,_,rfl,ih (_,_) _ h⟩
        ·refine oW (o6 g24) ?_
         cases h
         exact ⟨_,rfl,_,_,rfl,rfl⟩
       ·refine oW (a1p g25) ?_
        cases h
        exact ⟨_,rfl,_,_,rfl,rfl⟩
      ·refine R5 ?_
       cases h
       exact ⟨_,rfl,rfl⟩
     ·subst hx
      obtain ⟨b0r,l534⟩:=z28
      refine eSG (oA 1 rfl ?_)
      rcases o7 h with ⟨at32,g26,h⟩ | ⟨⟨at33,at34⟩,g27,h⟩
      ·refine oV (o6 g26) ?_
       refine C8 (eSG (oB 2 rfl ?_))
       cases h
       exact A9 ⟨_,_,_,rfl,rfl,rfl⟩
      ·refine oW (o6 g27) ?_
       cases h
       exact ⟨_,_,rfl,rfl⟩
     ·subst hz
      rcases res with ⟨_ | _ | _ | _,_,_⟩ <;> first | exact absurd rfl hn | exact hr.elim | (cases h; exact hr)
    ·subst hz
     rcases res with ⟨_ | _ | _ | _,_,_⟩ <;> first | exact absurd rfl hn | exact hr.elim | (cases h; exact hr)
   ·refine oW (o6 g30) ?_
    cases h
    exact ⟨_,_,rfl,rfl⟩
  ·refine oW (F4 g31) ?_
   cases h
   exact ⟨_,_,rfl,rfl⟩
 ·refine oW (H9 g32) ?_
  cases h
  exact ⟨_,_,rfl,rfl⟩
theorem a0u {d9:List Tok} {at2:Int} {j6:Int} {r:Rs Int Int} (h:Y8 d9 at2 j6 = some r) :
  E env (.call 121 [.ptr 0 0]) (hP A7 d9 at2 j6) = some (a7K d9 at2 j6 r):=by
 unfold Y8 at h
 refine J8 rfl Tryz.func121 rfl rfl ?_
 refine eSG (oB 1 rfl (eSG (oA 1 rfl ?_)))
 rcases o7 h with ⟨r4,g1,h⟩ | ⟨at6,g3,h⟩
 ·refine oV (K6 g1) ?_
  refine oA 1 rfl ?_
  obtain ⟨n5,g2,h⟩:=o8 h
  refine V4 rfl rfl rfl rfl rfl (atoi_ok g2) rfl ?_
  refine oB 5 rfl (eSG (oB 2 rfl ?_))
  cases h
  exact A9 ⟨_,_,_,rfl,rfl,rfl⟩
 ·refine oW (K6 g3) ?_
  cases h
  exact ⟨_,_,rfl,rfl⟩
theorem a5p {n:Nat} {d9:List Tok} {at2:Int} {j6:Int} {r:Rs (Nod × Int) (Int × Int)} (h:a01 n d9 at2 j6 = some r) :
  E env (.call 137 [.ptr 0 0]) (hP A7 d9 at2 j6) = some (a5d d9 at2 j6 r):=by
 unfold a01 at h
 refine J8 rfl Tryz.func137 rfl rfl ?_
 refine eSG (oB 1 rfl (eSG (oA 1 rfl ?_)))
 obtain ⟨at4,g1,h⟩:=o8 h
 refine oV (D8 g1) ?_
 refine oB 2 rfl (eSG (oA 1 rfl ?_))
 rcases o7 h with ⟨r5,g2,h⟩ | ⟨at10,g10,h⟩
 ·refine oV (F9 g2) ?_
  refine oB 2 rfl ?_
  obtain ⟨y3,g4,h⟩:=P6 h
  refine Q5 (KR:=fun r=>a2w env 137 1 Tryz.f137.results.toList (a5d d9 at2 j6 r)) y3 (fun z9=>[(2,.ptr 1 0),(3,.ptr 2 0)]) (fun z9=>[(0,.row [.sl A7 d9,.i z9.1,.i j6]),(1,.row [.i 0,.str [],.i 0,.i 0,.str [],.i 0,.st 3 p8 ([]:List Typ),.st 4 p8 ([]:List Typ),.st 5 F6 ([]:List Nod),.i 0]),(2,.row [.i z9.2.1,.str z9.2.2.1,.i 0,.i 0,.str [],.i 0,.sl p8 ([]:List Typ),.st 6 p8 ([]:List Typ),.st 7 F6 z9.2.2.2,.i at4]),(3,.tip 0 0),(4,.tip 0 0),(5,.tip 0 0),(6,.tip 0 0),(7,.tip (tpe 10 (List.length z9.2.2.2)) (List.length z9.2.2.2))]) rfl ?_ (fun z9 hx=>?_) (fun r res hz hr hn=>?_)
  ·replace h:=g4
   clear g4
   refine F7 ?_
   refine U0 rfl ?_
   revert y3
   refine Z7 (fun m (x:Int × Int × Str × List Nod)=>a0p n at4 j6 d9 m x.1 x.2.1 x.2.2.1 x.2.2.2) (fun x=>[(0,.ptr 0 0),(2,.ptr 1 0),(3,.ptr 2 0)]) (fun x=>[(0,.row [.sl A7 d9,.i x.1,.i j6]),(1,.row [.i 0,.str [],.i 0,.i 0,.str [],.i 0,.st 3 p8 ([]:List Typ),.st 4 p8 ([]:List Typ),.st 5 F6 ([]:List Nod),.i 0]),(2,.row [.i x.2.1,.str x.2.2.1,.i 0,.i 0,.str [],.i 0,.sl p8 ([]:List Typ),.st 6 p8 ([]:List Typ),.st 7 F6 x.2.2.2,.i at4]),(3,.tip 0 0),(4,.tip 0 0),(5,.tip 0 0),(6,.tip 0 0),(7,.tip (tpe 10 (List.length x.2.2.2)) (List.length x.2.2.2))]) _ (fun _=>rfl) (fun m3 x y ih h=>?_) n ((w64 (at2 + 1)),54,r5,([]:List Nod))
   obtain ⟨a2Y,op504,s505,a8M⟩:=x
   rw [a0p] at h
   refine G7 (eSG (oA 1 rfl ?_))
   obtain ⟨⟨r6,at7⟩,g5,h⟩:=o8 h
   refine oV (D7 g5) ?_
   refine C8 ?_
   refine eI rfl h (fun h=>?_) fun h=>?_
   ·refine D9 ?_
    refine F7 ?_
    refine eSG (oA 4 rfl ?_)
    refine oD ?_
    refine oB 2 rfl (eSG (oA 1 rfl ?_))
    rcases o7 h with ⟨r8,g7,h⟩ | ⟨at9,g8,h⟩
    ·refine oV (F9 g7) ?_
     refine oB 2 rfl (q9 (oB 2 rfl ?_))
     exact ⟨_,_,rfl,ih (_,_,_,_) _ h⟩
    ·refine oW (F9 g8) ?_
     cases h
     exact ⟨_,rfl,_,_,rfl,rfl⟩
   ·refine R5 ?_
    cases h
    exact ⟨_,rfl,rfl⟩
  ·subst hx
   obtain ⟨at520,op521,s522,l523⟩:=z9
   refine eSG (oB 2 rfl ?_)
   cases h
   exact A9 ⟨_,_,_,rfl,rfl,rfl⟩
  ·subst hz
   rcases res with ⟨_ | _ | _ | _,_,_⟩ <;> first | exact absurd rfl hn | exact hr.elim | (cases h; exact hr)
 ·refine oW (F9 g10) ?_
  cases h
  exact ⟨_,_,rfl,rfl⟩
theorem b23 {r:Unit} (h:a6k = some r) :
  E env (.call 114 []) [] = some (b2i r):=by
 unfold a6k at h
 refine J8 rfl Tryz.func114 rfl rfl ?_
 refine eSG (oB 1 rfl (eSG (oA 1 rfl ?_)))
 refine oD ?_
 refine oA 1 rfl ?_
 refine oD ?_
 refine oA 1 rfl ?_
 refine oD ?_
 refine oA 1 rfl ?_
 refine oD ?_
 refine oA 1 rfl ?_
 refine oD ?_
 refine oB 2 rfl ?_
 cases h
 exact A9 ⟨_,_,_,rfl,rfl,rfl⟩
theorem a5U {n:Nat} {s1:List Str} {v2:Str} {r:Int} (h:a1r n s1 v2 = some r) :
  E env (.call 75 [.sl clS s1,.str v2]) [] = some (a3n s1 v2 r):=by
 unfold a1r at h
 refine J8 rfl Tryz.func75 rfl rfl ?_
 refine eSG (oB 1 rfl ?_)
 obtain ⟨y1,g2,h⟩:=P6 h
 refine Q5 (KR:=fun r=>a2w env 75 0 Tryz.f75.results.toList (a3n s1 v2 r)) y1 (fun z6=>[]) (fun z6=>[]) rfl ?_ (fun z6 hx=>?_) (fun r res hz hr hn=>?_)
 ·replace h:=g2
  clear g2
  refine eSG (oB 3 rfl ?_)
  refine F7 ?_
  refine U0 rfl ?_
  revert y1
  refine Z7 (fun m (x:Int)=>R4 n s1 v2 m x) (fun x=>[(0,.sl clS s1),(1,.str v2),(7,.i (List.length s1:Int)),(8,.i x)]) (fun x=>[]) _ (fun _=>rfl) (fun m2 x y ih h=>?_) n 0
  obtain ⟨x501,rfl⟩:∃ q,q = x:=⟨_,rfl⟩
  rw [R4] at h
  refine eSG (oB 1 rfl (G7 ?_))
  refine eI rfl h (fun h=>?_) fun h=>?_
  ·refine D9 (G7 ?_)
   refine F7 ?_
   refine eSG (oB 2 rfl (eSG (oA 3 rfl ?_)))
   obtain ⟨x3,g4,h⟩:=o8 h
   refine a1J encS g4 rfl rfl rfl rfl rfl rfl rfl rfl ?_
   refine oB 2 rfl ?_
   refine eI rfl h (fun h=>?_) fun h=>?_
   ·refine eSG (oB 2 rfl ?_)
    cases h
    exact A9 ⟨_,rfl,_,_,_,rfl,rfl,rfl⟩
   ·refine D9 (q9 (oB 2 rfl ?_))
    exact ⟨_,_,rfl,ih _ _ h⟩
  ·refine R5 ?_
   cases h
   exact ⟨_,rfl,rfl⟩
 ·subst hx
  refine eSG (oB 1 rfl ?_)
  cases h
  exact A9 ⟨_,_,_,rfl,rfl,rfl⟩
 ·subst hz
  rcases res with ⟨_ | _ | _ | _,_,_⟩ <;> first | exact absurd rfl hn | exact hr.elim | (cases h; exact hr)
theorem a2S {n:Nat} {s1:List Str} {v2:Str} {r:Bool} (h:Q9 n s1 v2 = some r) :
  E env (.call 46 [.sl clS s1,.str v2]) [] = some (a5g s1 v2 r):=by
 unfold Q9 at h
 refine J8 rfl Tryz.func46 rfl rfl ?_
 refine eSG (oB 1 rfl (eSG (oA 2 rfl ?_)))
 obtain ⟨r3,g1,h⟩:=o8 h
 refine V4 rfl rfl rfl rfl rfl (a5U g1) rfl ?_
 refine oB 2 rfl ?_
 cases h
 exact A9 ⟨_,_,_,rfl,rfl,rfl⟩
end Go.Proofs.YtmhiojdkjokccaaGreatDoor
namespace Go.Proofs.YtmhiojdkjokccaaGreatDoor
open Go Go.Vm
structure I9.Ok (Φ:I9):Prop where
 J9:∀ {d9:List Tok} {at2:Int} {j6:Int} {r:Rs (Nod × Int) (Int × Int)},Φ.J9 d9 at2 j6 = some r -> E env (.call 112 [.ptr 0 0]) (hP A7 d9 at2 j6) = some (a0U d9 at2 j6 r)
theorem a6Y (n:Nat) {Φ:I9} (hΦ:Φ.Ok) {d9:List Tok} {at2:Int} {j6:Int} {r:Rs (Nod × Int) (Int × Int)} (h:a1e n Φ d9 at2 j6 = some r) :
  E env (.call 112 [.ptr 0 0]) (hP A7 d9 at2 j6) = some (a0U d9 at2 j6 r):=by
 unfold a1e at h
 refine J8 rfl Tryz.func112 rfl rfl ?_
 refine eSG (oB 1 rfl (eSG (oA 1 rfl ?_)))
 obtain ⟨at4,g1,h⟩:=o8 h
 refine oV (D8 g1) ?_
 refine oB 2 rfl ?_
 obtain ⟨y2,g3,h⟩:=P6 h
 refine Q5 (KR:=fun r=>a2w env 112 1 Tryz.f112.results.toList (a0U d9 at2 j6 r)) y2 (fun z45=>[(2,.ptr 1 0),(3,.ptr 2 0)]) (fun z45=>[(0,.row [.sl A7 d9,.i z45.1,.i j6]),(1,.row [.i 0,.str [],.i 0,.i 0,.str [],.i 0,.st 3 p8 ([]:List Typ),.st 4 p8 ([]:List Typ),.st 5 F6 ([]:List Nod),.i 0]),(2,.row [.i z45.2.1,.str z45.2.2.1,.i z45.2.2.2.1,.i 0,.str [],.i 0,.sl p8 ([]:List Typ),.st 6 p8 ([]:List Typ),.st 7 F6 z45.2.2.2.2,.i at4]),(3,.tip 0 0),(4,.tip 0 0),(5,.tip 0 0),(6,.tip 0 0),(7,.tip (tpe 10 (List.length z45.2.2.2.2)) (List.length z45.2.2.2.2))]) rfl ?_ (fun z45 hx=>?_) (fun r res hz hr hn=>?_)
 ·replace h:=g3
  clear g3
  refine F7 ?_
  refine eSG (oA 1 rfl ?_)
  obtain ⟨r5,g4,h⟩:=o8 h
  refine oV (F5 g4) ?_
  refine oB 1 rfl ?_
  refine eI rfl h (fun h=>?_) fun h=>?_
  ·refine eSG (oB 8 rfl (q9 (oB 2 rfl ?_)))
   cases h
   exact ⟨_,rfl,rfl⟩
  ·refine eSG (oA 1 rfl ?_)
   obtain ⟨r6,g6,h⟩:=o8 h
   refine oV (F5 g6) ?_
   refine oB 1 rfl ?_
   refine eI rfl h (fun h=>?_) fun h=>?_
   ·refine q9 (oA 1 rfl ?_)
    rcases o7 h with ⟨r7,g8,h⟩ | ⟨at8,g9,h⟩
    ·refine oV (F9 g8) ?_
     refine oB 4 rfl ?_
     cases h
     exact ⟨_,rfl,rfl⟩
    ·refine oW (F9 g9) ?_
     cases h
     exact ⟨_,rfl,_,_,rfl,rfl⟩
   ·refine eSG (oA 1 rfl ?_)
    obtain ⟨r9,g10,h⟩:=o8 h
    refine oV (F5 g10) ?_
    refine oB 1 rfl ?_
    refine eI rfl h (fun h=>?_) fun h=>?_
    ·refine q9 (oA 1 rfl ?_)
     rcases o7 h with ⟨r10,g12,h⟩ | ⟨at11,g13,h⟩
     ·refine oV (a0u g12) ?_
      refine oB 4 rfl ?_
      cases h
      exact ⟨_,rfl,rfl⟩
     ·refine oW (a0u g13) ?_
      cases h
      exact ⟨_,rfl,_,_,rfl,rfl⟩
    ·refine eSG (oA 1 rfl ?_)
     obtain ⟨⟨r12,at13⟩,g14,h⟩:=o8 h
     refine oV (D7 g14) ?_
     refine oB 1 rfl ?_
     refine eI rfl h (fun h=>?_) fun h=>?_
     ·refine q9 (oA 1 rfl ?_)
      rcases o7 h with ⟨r14,g16,h⟩ | ⟨at15,g17,h⟩
      ·refine oV (a0u g16) ?_
       refine oB 5 rfl ?_
       cases h
       exact ⟨_,rfl,rfl⟩
      ·refine oW (a0u g17) ?_
       cases h
       exact ⟨_,rfl,_,_,rfl,rfl⟩
     ·refine eSG (oA 1 rfl ?_)
      obtain ⟨r16,g18,h⟩:=o8 h
      refine oV (F5 g18) ?_
      refine oB 1 rfl ?_
      refine eI rfl h (fun h=>?_) fun h=>?_
      ·refine q9 (oA 1 rfl ?_)
       rcases o7 h with ⟨r17,g20,h⟩ | ⟨at18,g21,h⟩
       ·refine oV (K6 g20) ?_
        refine oB 5 rfl ?_
        cases h
        exact ⟨_,rfl,rfl⟩
       ·refine oW (K6 g21) ?_
        cases h
        exact ⟨_,rfl,_,_,rfl,rfl⟩
      ·refine eSG (oA 1 rfl ?_)
       obtain ⟨⟨r19,at20⟩,g22,h⟩:=o8 h
       refine oV (J3 g22) ?_
       refine oB 1 rfl ?_
       refine eI rfl h (fun h=>?_) fun h=>?_
       ·refine q9 (oB 4 rfl ?_)
        cases h
        exact ⟨_,rfl,rfl⟩
       ·refine eSG (oA 1 rfl ?_)
        obtain ⟨⟨r21,at22⟩,g24,h⟩:=o8 h
        refine oV (J3 g24) ?_
        refine oB 1 rfl ?_
        refine eI rfl h (fun h=>?_) fun h=>?_
        ·refine q9 (oB 2 rfl ?_)
         cases h
         exact ⟨_,rfl,rfl⟩
        ·refine eSG (oA 1 rfl ?_)
         rcases o7 h with ⟨at23,g26,h⟩ | ⟨⟨at43,at44⟩,g44,h⟩
         ·refine oV (o6 g26) ?_
          refine C8 (eSG (oA 1 rfl ?_))
          rcases o7 h with ⟨r24,g27,h⟩ | ⟨at42,g43,h⟩
          ·refine oV (F9 g27) ?_
           refine oB 4 rfl (eSG (oA 1 rfl ?_))
           obtain ⟨⟨r25,at26⟩,g28,h⟩:=o8 h
           refine oV (D7 g28) ?_
           refine C8 ?_
           refine eI rfl h (fun h=>?_) fun h=>?_
           ·refine G7 ?_
            refine O6 [256] rfl ?_
            refine oC rfl rfl (oC rfl rfl (oC rfl rfl (J4 rfl ?_)))
            rcases o7 h with ⟨⟨r27,at28⟩,g30,h⟩ | ⟨⟨at40,at41⟩,g42,h⟩
            ·obtain ⟨r27_0,r27_1,r27_2,⟨r27_3,r27_4,r27_5,r27_6⟩,r27_7,r27_8,r27_9⟩:=r27
             refine oV (hΦ.J9 g30) ?_
             refine C8 (oC rfl rfl (J4 rfl ?_))
             obtain ⟨l29,g31,h⟩:=o8 h
             refine oP Q6 g31 ?_
             refine C8 (oC rfl rfl (oC rfl rfl ?_))
             refine a0g ?_
             refine ⟨rfl,?_⟩
             obtain ⟨y32,g33,h⟩:=a3a h
             refine Q5 (KR:=fun r=>a2w env 112 1 Tryz.f112.results.toList (a0U d9 at2 j6 r)) y32 (fun z41=>[(0,.ptr 0 0),(2,.ptr 1 0),(3,.ptr 2 0)]) (fun z41=>[(0,.row [.sl A7 d9,.i z41.1,.i j6]),(1,.row [.i 0,.str [],.i 0,.i 0,.str [],.i 0,.st 3 p8 ([]:List Typ),.st 4 p8 ([]:List Typ),.st 5 F6 ([]:List Nod),.i 0]),(2,.row [.i 45,.str r24,.i 0,.i 0,.str [],.i 0,.sl p8 ([]:List Typ),.st 6 p8 ([]:List Typ),.st 7 F6 z41.2,.i at4]),(3,.tip 0 0),(4,.tip 0 0),(5,.tip 0 0),(6,.tip 0 0),(7,.tip (tpe 10 (List.length z41.2)) (List.length z41.2))]) rfl ?_ (fun z41 hx=>?_) (fun r res hz hr hn=>?_)
             ·replace h:=g33
              clear g33
              refine F7 ?_
              refine U0 rfl ?_
              revert y32
              refine Z7 (fun m (x:Int × List Nod)=>Y2 n Φ j6 d9 m x.1 x.2) (fun x=>[(0,.ptr 0 0),(2,.ptr 1 0),(3,.ptr 2 0)]) (fun x=>[(0,.row [.sl A7 d9,.i x.1,.i j6]),(1,.row [.i 0,.str [],.i 0,.i 0,.str [],.i 0,.st 3 p8 ([]:List Typ),.st 4 p8 ([]:List Typ),.st 5 F6 ([]:List Nod),.i 0]),(2,.row [.i 45,.str r24,.i 0,.i 0,.str [],.i 0,.sl p8 ([]:List Typ),.st 6 p8 ([]:List Typ),.st 7 F6 x.2,.i at4]),(3,.tip 0 0),(4,.tip 0 0),(5,.tip 0 0),(6,.tip 0 0),(7,.tip (tpe 10 (List.length x.2)) (List.length x.2))]) _ (fun _=>rfl) (fun m6 x y ih h=>?_) n (at28,l29)
              obtain ⟨a9B,b1Z⟩:=x
              rw [Y2] at h
              refine G7 (eSG (oA 1 rfl ?_))
              obtain ⟨⟨r30,at31⟩,g34,h⟩:=o8 h
              refine oV (D7 g34) ?_
              refine C8 ?_
              refine eI rfl h (fun h=>?_) fun h=>?_
              ·refine D9 ?_
               refine F7 ?_
               refine O6 [2] rfl ?_
               refine oC rfl rfl (oC rfl rfl (oC rfl rfl (J4 rfl ?_)))
               rcases o7 h with ⟨⟨r32,at33⟩,g36,h⟩ | ⟨⟨at35,at36⟩,g38,h⟩
               ·obtain ⟨r32_0,r32_1,r32_2,⟨r32_3,r32_4,r32_5,r32_6⟩,r32_7,r32_8,r32_9⟩:=r32
                refine oV (hΦ.J9 g36) ?_
                refine C8 (oC rfl rfl (J4 rfl ?_))
                obtain ⟨l34,g37,h⟩:=o8 h
                refine oP Q6 g37 ?_
                refine C8 (oC rfl rfl (oC rfl rfl ?_))
                refine a0g ?_
                refine ⟨rfl,?_⟩
                exact ⟨_,_,rfl,ih (_,_) _ h⟩
               ·refine oW (hΦ.J9 g38) ?_
                refine ⟨rfl,rfl,_,_,rfl,?_⟩
                cases h
                exact ⟨_,rfl,_,_,rfl,rfl⟩
              ·refine R5 ?_
               cases h
               exact ⟨_,rfl,rfl⟩
             ·subst hx
              obtain ⟨a9k,l524⟩:=z41
              refine q9 (oA 1 rfl ?_)
              rcases o7 h with ⟨at37,g39,h⟩ | ⟨⟨at38,at39⟩,g40,h⟩
              ·refine oV (o6 g39) ?_
               refine C8 ?_
               cases h
               exact ⟨_,rfl,rfl⟩
              ·refine oW (o6 g40) ?_
               cases h
               exact ⟨_,rfl,_,_,rfl,rfl⟩
             ·subst hz
              rcases res with ⟨_ | _ | _ | _,_,_⟩ <;> first | exact absurd rfl hn | exact hr.elim | (cases h; exact ⟨_,rfl,hr⟩)
            ·refine oW (hΦ.J9 g42) ?_
             refine ⟨rfl,rfl,_,_,rfl,?_⟩
             cases h
             exact ⟨_,rfl,_,_,rfl,rfl⟩
           ·refine D9 ?_
            cases h
            exact ⟨_,rfl,rfl⟩
          ·refine oW (F9 g43) ?_
           cases h
           exact ⟨_,rfl,_,_,rfl,rfl⟩
         ·refine oW (o6 g44) ?_
          cases h
          exact ⟨_,rfl,_,_,rfl,rfl⟩
 ·subst hx
  obtain ⟨a5E,op513,s514,n515,l516⟩:=z45
  refine eSG (oB 2 rfl ?_)
  cases h
  exact A9 ⟨_,_,_,rfl,rfl,rfl⟩
 ·subst hz
  rcases res with ⟨_ | _ | _ | _,_,_⟩ <;> first | exact absurd rfl hn | exact hr.elim | (cases h; exact hr)
theorem I9.ok:∀ n,(I9.fs n).Ok
 | 0=>⟨(fun h=>by cases h)⟩
 | n + 1=>⟨(fun h=>a6Y n (I9.ok n) h)⟩
theorem a4Q {n:Nat} {d9:List Tok} {at2:Int} {j6:Int} {r:Rs (Nod × Int) (Int × Int)} (h:J9 n d9 at2 j6 = some r) :
  E env (.call 112 [.ptr 0 0]) (hP A7 d9 at2 j6) = some (a0U d9 at2 j6 r):=(I9.ok n).J9 h
theorem b4m {n:Nat} {e1:Nod} {r:Bool} (h:a5N n e1 = some r) :
  E env (.call 105 [.agg (c0 e1.op e1.s e1.n e1.t.kind e1.t.name e1.t.n (.sl p8 e1.t.args) (.sl p8 e1.ts) (.sl F6 e1.l) e1.at_)]) [] = some (b24 e1 r):=by
 unfold a5N at h
 obtain ⟨e1_0,e1_1,e1_2,⟨e1_3,e1_4,e1_5,e1_6⟩,e1_7,e1_8,e1_9⟩:=e1
 refine J8 rfl Tryz.func105 rfl rfl ?_
 refine eSG (oB 2 rfl ?_)
 obtain ⟨y1,g2,h⟩:=o8 h
 refine a10 [(1,.ptr 0 0)] [(0,.row (c0 y1.op y1.s y1.n y1.t.kind y1.t.name y1.t.n (.sl p8 y1.t.args) (.sl p8 y1.ts) (.sl F6 y1.l) y1.at_))] rfl ?_ ?_
 ·replace h:=g2
  clear g2
  refine F7 ?_
  refine U0 rfl ?_
  revert y1
  refine Z7 (fun m (x:Nod)=>a1g n m x) (fun x=>[(1,.ptr 0 0)]) (fun x=>[(0,.row (c0 x.op x.s x.n x.t.kind x.t.name x.t.n (.sl p8 x.t.args) (.sl p8 x.ts) (.sl F6 x.l) x.at_))]) _ (fun _=>rfl) (fun m1 x y ih h=>?_) n (Nod.mk e1_0 e1_1 e1_2 (Typ.mk e1_3 e1_4 e1_5 e1_6) e1_7 e1_8 e1_9)
  obtain ⟨n501,rfl⟩:∃ q,q = x:=⟨_,rfl⟩
  obtain ⟨n501_0,n501_1,n501_2,⟨n501_3,n501_4,n501_5,n501_6⟩,n501_7,n501_8,n501_9⟩:=n501
  replace h:a1g n (m1 + 1) (Nod.mk n501_0 n501_1 n501_2 (Typ.mk n501_3 n501_4 n501_5 n501_6) n501_7 n501_8 n501_9) = some y:=h
  rw [a1g] at h
  refine G7 (eSG (oB 3 rfl ?_))
  refine eI rfl h (fun h=>?_) fun h=>?_
  ·refine D9 ?_
   refine F7 ?_
   refine q9 (oA 2 rfl ?_)
   obtain ⟨x2,g4,h⟩:=o8 h
   obtain ⟨x2_0,x2_1,x2_2,⟨x2_3,x2_4,x2_5,x2_6⟩,x2_7,x2_8,x2_9⟩:=x2
   refine a1J Q6 g4 rfl rfl rfl rfl rfl rfl rfl rfl ?_
   refine a8h (c:=(c0 x2_0 x2_1 x2_2 x2_3 x2_4 x2_5 (.sl p8 x2_6) (.sl p8 x2_7) (.sl F6 x2_8) x2_9)) rfl rfl rfl rfl rfl rfl rfl ?_
   refine oB 1 rfl ?_
   exact ⟨_,_,rfl,ih _ _ h⟩
  ·refine R5 ?_
   cases h
   exact rfl
 ·obtain ⟨n503,rfl⟩:∃ q,q = y1:=⟨_,rfl⟩
  obtain ⟨n503_0,n503_1,n503_2,⟨n503_3,n503_4,n503_5,n503_6⟩,n503_7,n503_8,n503_9⟩:=n503
  refine eSG (oB 4 rfl ?_)
  cases h
  exact A9 ⟨_,_,_,rfl,rfl,rfl⟩
end Go.Proofs.YtmhiojdkjokccaaGreatDoor
