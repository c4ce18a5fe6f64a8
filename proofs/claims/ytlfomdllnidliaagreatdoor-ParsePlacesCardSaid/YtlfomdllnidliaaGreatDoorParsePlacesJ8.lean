/- What the functions under ParsePlaces compute, step by step, as functions in Lean: texts that were built one by one, joined. -/
import Derived.Test.YtlfomdllnidliaaGreatDoorParsePlacesJ7
set_option maxRecDepth 100000
set_option maxHeartbeats 20000000
set_option linter.unusedSimpArgs false
set_option linter.unusedVariables false
set_option linter.unusedSectionVars false
namespace Go.Proofs.YtlfomdllnidliaaGreatDoor
open Go Go.Vm
section
variable {l:List Tok} {size:Int} (C:Cx l size)
include C
theorem b6E {N n n' k0:Nat} {a:Int} (hN:24000 <= N) (hn:N <= n) (hn':N <= n') (H:Hyp l size (k0 + 1) N):∀ (m m' k:Nat) (xs:List Nod),k0 <= k -> k <= l.length -> l.length - k < m -> l.length - k < m' -> szN xs + 4 * k0 <= 4 * k -> (∀ x ∈ xs,G 0 x) ->
  (∃ (q:Nat) (ys:List Nod),V8 n (j5.fs n) size l m k xs = some (.brk ((q:Int),ys)) /\ ((p8 [44] l size k (-1)).bind fun (r45,at46)=>a1j n' (o5.fs n') size l a m' r45 at46 (-1) xs) = some (.brk ((q:Int),-1,ys)) /\ k <= q /\ q <= l.length /\ szN ys + 4 * k0 <= 4 * q /\ ∀ x ∈ ys,G 0 x) ∨
  (∃ (q:Nat) (y:Nod) (pl:Int) (f:o6),V8 n (j5.fs n) size l m k xs = some (.out (.pan (f,(q:Int)))) /\ ((p8 [44] l size k (-1)).bind fun (r45,at46)=>a1j n' (o5.fs n') size l a m' r45 at46 (-1) xs) = some (.out (y,false,(q:Int),pl)) /\ k <= q /\ q <= l.length /\ a4w l size q pl f)
 | 0,m',k,xs,h1,h2,h3,h4,h5,h6=>by omega
 | m + 1,0,k,xs,h1,h2,h3,h4,h5,h6=>by omega
 | m + 1,m' + 1,k,xs,h1,h2,h3,h4,h5,h6=>by
  have hl:=C.hl
  have hlen:=a0e xs
  rw [V8.eq_2]
  rcases sgx C h2 44 [] with ⟨b,hb,e1,e2,e3,e4,e5⟩ | ⟨b,e1,e2,e3,e4,e5⟩
  ·rw [e1,e2]
   simp only [Option.bind_some,cond_true,a1j.eq_2]
   rcases H.expr (k + 1) n n' (by omega) hb hn hn' with ⟨x,q,p1,p2,p3,p4,p5,p6⟩ | ⟨x,q,pl,f,p1,p2,p3,p4,p5⟩
   ·have a1:app 144 xs [x] = some (xs ++ [x]):=a1L (by omega) (by simp) (by omega)
    have hx:=x.a13
    simp only [p1,p2,a1,I5,Option.bind_some,Bool.not_true,cond_false]
    rcases b6E hN hn hn' H m m' q (xs ++ [x]) (by omega) p4 (by omega) (by omega) (by simp only [szs]; omega) (a5v h6 (a4x p6)) with ⟨q',ys,y1,y2,y3,y4,y5,y6⟩ | ⟨q',y,pl,f,y1,y2,y3,y4,y5⟩
    ·exact .inl ⟨q',ys,y1,y2,by omega,y4,y5,y6⟩
    ·exact .inr ⟨q',y,pl,f,y1,y2,by omega,y4,y5⟩
   ·simp only [p1,p2,O6,Option.bind_some,Bool.not_false,cond_true]
    exact .inr ⟨q,_,pl,f,rfl,rfl,by omega,p4,p5⟩
  ·rw [e1,e2]
   exact .inl ⟨k,xs,rfl,rfl,Nat.le_refl _,h2,h5,h6⟩
theorem atom_at {N n n' k:Nat} (hN:24000 <= N) (hn:N + 2 <= n) (hn':N + 2 <= n') (hk:k <= l.length) (H:Hyp l size (k + 1) N) (h1:isK l 1 k = false) :
  a3l l size k Nod.sz (G 0) ((j5.fs n).a0F l k size) ((o5.fs n').a2V l size k (-1)):=by
 have hl:=C.hl
 obtain ⟨n,rfl⟩:∃ q,n = q + 1:=⟨n - 1,by omega⟩
 obtain ⟨n',rfl⟩:∃ q,n' = q + 1:=⟨n' - 1,by omega⟩
 show a3l l size k Nod.sz (G 0) (a0b n (j5.fs n) l k size) (a2b n' (o5.fs n') l size k (-1))
 unfold a0b a2b
 rcases inx C hk with ⟨c,hb,v,v0,e1,e2,e3,e4⟩ | ⟨c,e1,e2,e3⟩
 ·simp (disch:=omega) only [e1,e2,e3,e4,SSx C]
  exact .inl ⟨_,k + 1,rfl,rfl,by omega,hb,by simp only [szs]; omega,.int v0 (C.pos k)⟩
 simp (disch:=omega) only [e2,e3,SSx C]
 rcases kdx C hk 4 with ⟨c,hb,t,t1,t2,t3,t4,e1,e2,e3,e4⟩ | ⟨c,e1,e2,e3,e4⟩
 ·simp (disch:=omega) only [e1,e3,e4,t2,SSx C]
  exact .inl ⟨_,k + 1,rfl,rfl,by omega,hb,by simp only [szs]; omega,.text (C.pos k)⟩
 simp (disch:=omega) only [e1,e3,SSx C]
 rcases kdx C hk 5 with ⟨c,hb,t,t1,t2,t3,t4,e1,e2,e3,e4⟩ | ⟨c,e1,e2,e3,e4⟩
 ·simp (disch:=omega) only [e1,e2,SSx C]
  rcases c1q C (n:=n) (n':=n') hN (by omega) (by omega) c H with ⟨x,q,p1,p2,p3,p4,p5,p6⟩ | ⟨x,q,pl,f,p1,p2,p3,p4,p5⟩
  ·simp only [p1,p2,I5,Option.bind_some,a0r]
   exact .inl ⟨x,q,rfl,rfl,p3,p4,p5,p6⟩
  ·simp only [p1,p2,O6,Option.bind_some,a0r]
   exact .inr ⟨x,q,pl,f,rfl,rfl,p3,p4,p5⟩
 simp (disch:=omega) only [e1,e2,SSx C]
 rcases kyx C hk 116 [114,117,101] with ⟨b,hb,e1,e2,e3,e4,e5⟩ | ⟨b,e1,e2,e3,e4,e5⟩
 ·simp (disch:=omega) only [e1,e2,SSx C]
  exact .inl ⟨_,k + 1,rfl,rfl,by omega,hb,by simp only [szs]; omega,.truth (.inr rfl) (C.pos k)⟩
 simp (disch:=omega) only [e1,e2,SSx C]
 rcases kyx C hk 102 [97,108,115,101] with ⟨b,hb,e1,e2,e3,e4,e5⟩ | ⟨b,e1,e2,e3,e4,e5⟩
 ·simp (disch:=omega) only [e1,e2,SSx C]
  exact .inl ⟨_,k + 1,rfl,rfl,by omega,hb,by simp only [szs]; omega,.truth (.inl rfl) (C.pos k)⟩
 obtain ⟨n1,n2,n3⟩:=nmf C hk h1
 simp (disch:=omega) only [e1,e2,n2,n3,SSx C]
 rcases kyx C hk 99 [111,110,115,117,109,101] with ⟨b,hb,e1,e2,e3,e4,e5⟩ | ⟨b,e1,e2,e3,e4,e5⟩
 ·simp (disch:=omega) only [e1,e2,SSx C]
  rcases nmx C hb with ⟨c,hb,e1,e2,e3⟩ | ⟨c,e1,e2,e3⟩
  ·simp (disch:=omega) only [e1,e2,SSx C]
   exact .inl ⟨_,k + 1 + 1,rfl,rfl,by omega,hb,by simp only [szs]; omega,.use (C.pos k)⟩
  ·simp (disch:=omega) only [e1,e2,SSx C]
   exact .inr ⟨_,k + 1,-1,_,rfl,rfl,by omega,hb,a03 l size (k + 1)⟩
 simp (disch:=omega) only [e1,e2,SSx C]
 rcases sgx C hk 91 [] with ⟨b,hb,e1,e2,e3,e4,e5⟩ | ⟨b,e1,e2,e3,e4,e5⟩
 ·simp (disch:=omega) only [e1,e2,SSx C]
  rcases sgx C hb 93 [] with ⟨b,hb,e1,e2,e3,e4,e5⟩ | ⟨b,e1,e2,e3,e4,e5⟩
  ·simp (disch:=omega) only [e1,e2,SSx C]
   exact .inl ⟨_,k + 1 + 1,rfl,rfl,by omega,hb,by simp only [szs]; omega,.list (C.pos k) all_nil⟩
  simp (disch:=omega) only [e1,e2,SSx C]
  obtain ⟨m',rfl⟩:∃ q,n' = q + 1:=⟨n' - 1,by omega⟩
  rw [a1j.eq_2,cond_true]
  rcases H.expr (k + 1) n (m' + 1) (Nat.le_refl _) hb (by omega) (by omega) with ⟨x,q,p1,p2,p3,p4,p5,p6⟩ | ⟨x,q,pl,f,p1,p2,p3,p4,p5⟩
  ·rw [p1,p2,I5,Option.bind_some]
   simp only [app_0 144 x (by omega),Option.bind_some,Bool.not_true,cond_false]
   have hx:=x.a13
   rcases b6E C (a:=H6 l size k) (n:=n) (n':=m' + 1) hN (by omega) (by omega) H n m' q [x] (by omega) p4 (by omega) (by omega) (by simp only [szs]; omega) (a4x p6) with ⟨q',ys,y1,y2,y3,y4,y5,y6⟩ | ⟨q',y,pl,f,y1,y2,y3,y4,y5⟩
   ·rw [y1,y2,a1Q,a1Q]
    rcases sgx C y4 93 [] with ⟨b,hb,e1,e2,e3,e4,e5⟩ | ⟨b,e1,e2,e3,e4,e5⟩
    ·simp (disch:=omega) only [e2,e3,SSx C]
     exact .inl ⟨_,q' + 1,rfl,rfl,by omega,hb,by simp only [szs]; omega,.list (C.pos k) y6⟩
    ·simp (disch:=omega) only [e2,e3,SSx C]
     exact .inr ⟨_,q',-1,_,rfl,rfl,by omega,y4,a03 l size q'⟩
   ·rw [y1,y2,a4y,a4y,a0r,a0r]
    exact .inr ⟨_,q',pl,f,rfl,rfl,by omega,y4,y5⟩
  ·rw [p1,p2,O6,Option.bind_some]
   exact .inr ⟨_,q,pl,f,rfl,rfl,by omega,p4,p5⟩
 simp (disch:=omega) only [e1,e2,SSx C]
 rcases sgx C hk 40 [] with ⟨b,hb,e1,e2,e3,e4,e5⟩ | ⟨b,e1,e2,e3,e4,e5⟩
 ·simp (disch:=omega) only [e1,e2,SSx C]
  rcases H.expr (k + 1) n n' (Nat.le_refl _) hb (by omega) (by omega) with ⟨x,q,p1,p2,p3,p4,p5,p6⟩ | ⟨x,q,pl,f,p1,p2,p3,p4,p5⟩
  ·simp (disch:=omega) only [p1,p2,SSx C]
   rcases sgx C p4 41 [] with ⟨b,hb,e1,e2,e3,e4,e5⟩ | ⟨b,e1,e2,e3,e4,e5⟩
   ·simp (disch:=omega) only [e2,e3,SSx C]
    exact .inl ⟨x,q + 1,rfl,rfl,by omega,hb,by omega,p6⟩
   ·simp (disch:=omega) only [e2,e3,SSx C]
    exact .inr ⟨_,q,-1,_,rfl,rfl,by omega,p4,a03 l size q⟩
  ·simp (disch:=omega) only [p1,p2,SSx C]
   exact .inr ⟨_,q,pl,f,rfl,rfl,by omega,p4,p5⟩
 simp (disch:=omega) only [e1,e2,SSx C]
 rcases sgx C hk 123 [] with ⟨b,hb,e1,e2,e3,e4,e5⟩ | ⟨b,e1,e2,e3,e4,e5⟩
 ·simp (disch:=omega) only [e4,e5,SSx C]
  rcases clos_at C (n:=n) (n':=n') hN (by omega) (by omega) b H with ⟨x,q,p1,p2,p3,p4,p5,p6⟩ | ⟨x,q,pl,f,p1,p2,p3,p4,p5⟩
  ·simp only [p1,p2,I5,Option.bind_some,a0r]
   exact .inl ⟨x,q,rfl,rfl,p3,p4,p5,p6⟩
  ·simp only [p1,p2,O6,Option.bind_some,a0r]
   exact .inr ⟨x,q,pl,f,rfl,rfl,p3,p4,p5⟩
 simp (disch:=omega) only [e4,e5,SSx C]
 obtain ⟨n',rfl⟩:∃ q,n' = q + 1:=⟨n' - 1,by omega⟩
 have hpa:(o5.fs (n' + 1)).a4c l size k (-1) = a4K n' (o5.fs n') l size k (-1):=rfl
 rw [hpa]
 unfold a4K
 rw [a6V C.hl hk,Option.bind_some]
 rcases base_sim C (n:=n) (n':=n') hk (by omega) (by omega) with ⟨t,q0,p1,p2,p3,p4,p5⟩ | ⟨t,q0,p1,p2,p3,p4⟩
 ·rw [p1 true,p2,Option.bind_some]
  simp only
  rcases b6T C (Φ:=A9.fs (n - 1)) (Ψ:=o5.fs n') (n - 1) n' k (H6 l size k) (n - 1) n' q0 t p4 (by omega) (by omega) p5 with ⟨t',q,y1,y2,y3,y4,y5,y6⟩ | ⟨t',q,y1,y2,y3,y4,y5,y6,y7,y8⟩ | ⟨t',q,x,y1,y2,y3,y4,y5,y6⟩ | ⟨q,x,y1,y2,y3,y4⟩
  ·obtain ⟨hb,e1,e2,e3,e4,e5⟩:=sgt C y2
   rw [y1,y3]
   simp (disch:=omega) only [e4,SSx C]
   rcases H.args [] q n n' (by simp) (by omega) y5 (by omega) (by omega) with ⟨ys,q2,g1,g2,g3,g4,g5,g6⟩ | ⟨x',y',q2,pl,f,g1,g2,g3,g4,g5⟩
   ·rw [List.nil_append] at g2
    simp (disch:=omega) only [g1,g2,SSx C]
    exact .inl ⟨_,q2,by rw [a7N],rfl,by omega,g4,by simp only [szs]; omega,.make (C.pos k) g6⟩
   ·simp (disch:=omega) only [g1,g2,SSx C]
    exact .inr ⟨_,q2,pl,f,rfl,rfl,by omega,g4,g5⟩
  ·obtain ⟨f1,f2,f3,f4,f5⟩:=sgf C (by omega) y2
   obtain ⟨hb,e1,e2,e3,e4,e5⟩:=sgt C y3
   obtain ⟨hc,g1,g2,g3⟩:=nmt C y4
   rw [y1,y5]
   simp (disch:=omega) only [f4,e3,g1,SSx C]
   rcases sgx C hc 40 [] with ⟨b,hb,e1,e2,e3,e4,e5⟩ | ⟨b,e1,e2,e3,e4,e5⟩
   ·simp (disch:=omega) only [e4,b,SSx C]
    rcases H.args [] (q + 1 + 1) n n' (by simp) (by omega) hc (by omega) (by omega) with ⟨ys,q2,g1,g2,g3,g4,g5,g6⟩ | ⟨x',y',q2,pl,f,g1,g2,g3,g4,g5⟩
    ·rw [List.nil_append] at g2
     simp (disch:=omega) only [g1,g2,SSx C]
     exact .inl ⟨_,q2,by rw [a7N],rfl,by omega,g4,by simp only [szs]; omega,.stat1 (C.pos k) g6⟩
    ·simp (disch:=omega) only [g1,g2,SSx C]
     exact .inr ⟨_,q2,pl,f,rfl,rfl,by omega,g4,g5⟩
   ·simp (disch:=omega) only [e4,b,SSx C]
    exact .inl ⟨_,q + 1 + 1,by rw [a7N],rfl,by omega,hc,by simp only [szs]; omega,.stat0 (C.pos k)⟩
  ·obtain ⟨f1,f2,f3,f4,f5⟩:=sgf C y6 y2
   obtain ⟨e1,e2,e3,e4,e5⟩:=sgf C y6 y3
   rw [y1,y4]
   simp (disch:=omega) only [f4,e3,SSx C]
   exact .inr ⟨_,q,-1,_,rfl,rfl,by omega,y6,a03 l size q⟩
  ·rw [y1,y2]
   simp (disch:=omega) only [SSx C]
   exact .inr ⟨_,q,-1,_,rfl,rfl,by omega,y4,a03 l size q⟩
 ·rw [p1 true,p2,Option.bind_some]
  obtain ⟨n',rfl⟩:∃ q,n' = q + 1:=⟨n' - 1,by omega⟩
  simp (disch:=omega) only [a0O.eq_2,SSx C]
  exact .inr ⟨_,q0,-1,_,rfl,rfl,by omega,p4,a03 l size q0⟩
theorem c09 {n n' k:Nat} (h1:isK l 1 k = true) :
  (j5.fs (n + 1)).a0F l k size = some (.ok ((⟨54,O8 l k,0,zT,[],[],H6 l size k⟩:Nod),((k + 1:Nat):Int))) /\
  (o5.fs (n' + 1)).a2V l size k (-1) = cond (isT l 8 [40] (k + 1)) (((o5.fs n').Z5 ([]:List Nod) l size ((k + 1:Nat):Int) (-1)).bind fun (r26,r27,at28,b7M,gone30)=>some (((⟨56,O8 l k,0,(⟨0,[],0,[]⟩:Typ),[],r26,H6 l size k⟩:Nod),r27,at28,b7M))) (some (((⟨54,O8 l k,0,(⟨0,[],0,[]⟩:Typ),[],[],H6 l size k⟩:Nod),true,((k + 1:Nat):Int),-1))):=by
 have hl:=C.hl
 obtain ⟨hb,g1,g2,g3⟩:=nmt C h1
 have hk:k <= l.length:=by omega
 obtain ⟨a1,a2,a3,a4⟩:=kdf C (kind:=3) hk (b4U C h1 (by decide))
 obtain ⟨b1,b2,b3,b4⟩:=kdf C (kind:=4) hk (b4U C h1 (by decide))
 obtain ⟨c1,c2,c3,c4⟩:=kdf C (kind:=5) hk (b4U C h1 (by decide))
 obtain ⟨d1,d2⟩:=kyf C hk (b4U C h1 (by decide)) 116 [114,117,101]
 obtain ⟨f1,f2⟩:=kyf C hk (b4U C h1 (by decide)) 102 [97,108,115,101]
 have nx:=a7X C.hl hb size (-1) 8 [40]
 constructor
 ·show a0b n (j5.fs n) l k size = _
  unfold a0b
  simp (disch:=omega) only [a1,b1,c1,d1,f1,g1,g3,SSx C]
 ·show a2b n' (o5.fs n') l size k (-1) = _
  unfold a2b
  simp (disch:=omega) only [a3,b3,c2,d2,f2,g2,nx,SSx C]
theorem a6X {N n n' k0:Nat} (hN:24000 <= N) (hn:N <= n) (hn':N <= n') (H:Hyp l size (k0 + 1) N):∀ (m m' k:Nat) (x:Nod),k0 + 1 <= k -> k <= l.length -> l.length - k < m -> l.length - k + 1 < m' -> x.sz + 4 * k0 <= 4 * k -> G 0 x ->
  a3l l size k0 Nod.sz (G 0) (M4 n (j5.fs n) size l m false k x) (R8 (α:=Bool × Int × Int × Nod) (a0a n' (o5.fs n') size l m' true k (-1) x) fun (b8N,b6b,a7q,n555)=>some ((n555,b8N,b6b,a7q)))
 | 0,m',k,x,h1,h2,h3,h4,h5,h6=>by omega
 | m + 1,0,k,x,h1,h2,h3,h4,h5,h6=>by omega
 | m + 1,1,k,x,h1,h2,h3,h4,h5,h6=>by omega
 | m + 1,m' + 2,k,x,h1,h2,h3,h4,h5,h6=>by
  have hl:=C.hl
  have e0:∀ (q pl:Int) (y:Nod),a0a n' (o5.fs n') size l (m' + 1) false q pl y = some (.brk (false,q,pl,y)):=fun _ _ _=>rfl
  have one:∀ ys:List Nod,szN ys <= 20000 -> app 144 [x] ys = some ([x] ++ ys):=fun ys h=>a1L (by simp) (by have:=a0e ys; omega) (by omega)
  rw [M4.eq_2,a0a.eq_2,cond_true]
  rcases sgx C h2 46 [] with ⟨b,hb,e1,e2,e3,e4,e5⟩ | ⟨b,e1,e2,e3,e4,e5⟩
  ·rw [e1,e2]
   simp only [Option.bind_some,cond_true]
   rcases nmx C hb with ⟨c,hc,e1,e2,e3⟩ | ⟨c,e1,e2,e3⟩
   ·simp (disch:=omega) only [e1,e2,SSx C]
    rcases sgx C hc 40 [] with ⟨b,hb2,e1,e2,e3,e4,e5⟩ | ⟨b,e1,e2,e3,e4,e5⟩
    ·simp only [e4,e5,Option.bind_some,cond_true]
     rcases H.args [x] (k + 1 + 1) n n' (by simp) (by omega) hc hn hn' with ⟨ys,q,g1,g2,g3,g4,g5,g6⟩ | ⟨x',y',q,pl,f,g1,g2,g3,g4,g5⟩
     ·simp only [g1,g2,I5,Option.bind_some,one ys (by omega),a1Q,Z9]
      exact a6X hN hn hn' H m (m' + 1) q ⟨57,O8 l (k + 1),0,zT,[],[x] ++ ys,x.at_⟩ (by omega) g4 (by omega) (by omega) (by simp only [szs]; omega) (.method h6.at h6 g6)
     ·simp only [g1,g2,O6,Option.bind_some,a4y,a0r,e0,Z9]
      exact .inr ⟨_,q,pl,f,rfl,rfl,by omega,g4,g5⟩
    ·simp only [e4,e5,Option.bind_some,cond_false,a1Q,Z9]
     exact a6X hN hn hn' H m (m' + 1) (k + 1 + 1) ⟨55,O8 l (k + 1),0,zT,[],[x],x.at_⟩ (by omega) hc (by omega) (by omega) (by simp only [szs]; omega) (.field h6.at h6)
   ·simp (disch:=omega) only [e1,e2,SSx C]
    exact .inr ⟨_,k + 1,-1,_,rfl,rfl,by omega,hb,a03 l size (k + 1)⟩
  ·rw [e1,e2]
   simp only [Option.bind_some,cond_false]
   rcases sgx C h2 40 [] with ⟨b,hb2,e1,e2,e3,e4,e5⟩ | ⟨b,e1,e2,e3,e4,e5⟩
   ·simp only [e4,e5,Option.bind_some,cond_true]
    rcases H.args [x] k n n' (by simp) (by omega) h2 hn hn' with ⟨ys,q,g1,g2,g3,g4,g5,g6⟩ | ⟨x',y',q,pl,f,g1,g2,g3,g4,g5⟩
    ·simp only [g1,g2,I5,Option.bind_some,one ys (by omega),a1Q,Z9]
     exact a6X hN hn hn' H m (m' + 1) q ⟨60,[],0,zT,[],[x] ++ ys,x.at_⟩ (by omega) g4 (by omega) (by omega) (by simp only [szs]; omega) (.apply h6.at h6 g6)
    ·simp only [g1,g2,O6,Option.bind_some,a4y,a0r,e0,Z9]
     exact .inr ⟨_,q,pl,f,rfl,rfl,by omega,g4,g5⟩
   ·simp only [e4,e5,Option.bind_some,cond_false,a0r]
    exact .inl ⟨x,k,rfl,rfl,by omega,h2,h5,h6⟩
theorem post_at {N n n' k:Nat} (hN:24000 <= N) (hn:N + 3 <= n) (hn':N + 3 <= n') (hk:k <= l.length) (H:Hyp l size (k + 1) N) :
  a3l l size k Nod.sz (G 0) ((j5.fs n).a0k l k size) ((o5.fs n').a2Y l size k (-1)):=by
 have hl:=C.hl
 obtain ⟨n,rfl⟩:∃ q,n = q + 1:=⟨n - 1,by omega⟩
 obtain ⟨n',rfl⟩:∃ q,n' = q + 1:=⟨n' - 1,by omega⟩
 show a3l l size k Nod.sz (G 0) (a0l n (j5.fs n) l k size) (a3L n' (o5.fs n') l size k (-1))
 unfold a0l a3L
 have e0:∀ (q pl:Int) (y:Nod),a0a n' (o5.fs n') size l n' false q pl y = some (.brk (false,q,pl,y)):=by
  obtain ⟨m,rfl⟩:∃ q,n' = q + 1:=⟨n' - 1,by omega⟩
  exact fun _ _ _=>rfl
 rw [b4V C.hl hk size 1,Option.bind_some]
 cases h1:isK l 1 k
 ·rcases atom_at C (n:=n) (n':=n') hN (by omega) (by omega) hk H h1 with ⟨x,q,p1,p2,p3,p4,p5,p6⟩ | ⟨x,q,pl,f,p1,p2,p3,p4,p5⟩
  ·rw [p1,p2,I5,Option.bind_some]
   have hx:=x.a13
   exact a6X C (n:=n) (n':=n') hN (by omega) (by omega) H n n' q x (by omega) p4 (by omega) (by omega) p5 p6
  ·rw [p1,p2,O6,Option.bind_some]
   simp only [e0,Z9]
   exact .inr ⟨_,q,pl,f,rfl,rfl,p3,p4,p5⟩
 ·obtain ⟨n1,rfl⟩:∃ q,n = q + 1:=⟨n - 1,by omega⟩
  obtain ⟨n1',rfl⟩:∃ q,n' = q + 1:=⟨n' - 1,by omega⟩
  obtain ⟨a1,a2⟩:=c09 C (n:=n1) (n':=n1') h1
  obtain ⟨hb,_⟩:=nmt C h1
  have gn:G 0 (⟨54,O8 l k,0,zT,[],[],H6 l size k⟩:Nod):=.name (C.pos k)
  rw [a1,a2,I5]
  simp only
  rcases sgx C hb 40 [] with ⟨b,hb2,e1,e2,e3,e4,e5⟩ | ⟨b,e1,e2,e3,e4,e5⟩
  ·obtain ⟨f1,f2,f3,f4,f5⟩:=sgf C hb (b7x C b (u:=[46]) (by decide))
   rw [b,cond_true,M4.eq_2,f1]
   simp only [e4,Option.bind_some,cond_false,cond_true]
   rcases H.args [] (k + 1) (n1 + 1) n1' (by simp) (Nat.le_refl _) hb (by omega) (by omega) with ⟨ys,q,g1,g2,g3,g4,g5,g6⟩ | ⟨x',y',q,pl,f,g1,g2,g3,g4,g5⟩
   ·rw [List.nil_append] at g2
    simp only [g1,g2,I5,Option.bind_some,Z9]
    exact a6X C (n:=n1 + 1) (n':=n1' + 1) hN (by omega) (by omega) H n1 (n1' + 1) q ⟨56,O8 l k,0,zT,[],ys,H6 l size k⟩ (by omega) g4 (by omega) (by omega) (by simp only [szs]; omega) (.call (C.pos k) g6)
   ·simp only [g1,g2,O6,Option.bind_some,a0r,e0,Z9]
    exact .inr ⟨_,q,pl,f,rfl,rfl,by omega,g4,g5⟩
  ·rw [b,cond_false,Option.bind_some]
   have hb0:∀ m,M4 (n1 + 1) (j5.fs (n1 + 1)) size l m true ((k + 1:Nat):Int) (⟨54,O8 l k,0,zT,[],[],H6 l size k⟩:Nod) = M4 (n1 + 1) (j5.fs (n1 + 1)) size l m false ((k + 1:Nat):Int) (⟨54,O8 l k,0,zT,[],[],H6 l size k⟩:Nod):=by
    intro m
    cases m with
    | zero=>rfl
    | succ m =>
     rcases sgx C hb 46 [] with ⟨b,_,f1,f2,f3,f4,f5⟩ | ⟨b,f1,f2,f3,f4,f5⟩ <;> simp only [M4.eq_2,e4,f1,Option.bind_some,cond_false,cond_true]
   rw [hb0]
   exact a6X C (n:=n1 + 1) (n':=n1' + 1) hN (by omega) (by omega) H (n1 + 1) (n1' + 1) (k + 1) _ (Nat.le_refl _) hb (by omega) (by omega) (by simp only [szs]; omega) gn
theorem unary_at {N n n' k:Nat} (hN:24000 <= N) (hn:N + 4 <= n) (hn':N + 4 <= n') (hk:k <= l.length) (H:Hyp l size (k + 1) N) :
  a3l l size k Nod.sz (G 0) ((j5.fs n).I9 l k size) ((o5.fs n').X5 l size k (-1)):=by
 have hl:=C.hl
 obtain ⟨n,rfl⟩:∃ q,n = q + 1:=⟨n - 1,by omega⟩
 obtain ⟨n',rfl⟩:∃ q,n' = q + 1:=⟨n' - 1,by omega⟩
 show a3l l size k Nod.sz (G 0) (a0M n (j5.fs n) l k size) (a4u n' (o5.fs n') l size k (-1))
 unfold a0M a4u
 rcases sgx C hk 45 [] with ⟨b,hb,e1,e2,e3,e4,e5⟩ | ⟨b,e1,e2,e3,e4,e5⟩
 ·simp (disch:=omega) only [e1,e2,SSx C]
  rcases H.unary (k + 1) n n' (Nat.le_refl _) hb (by omega) (by omega) with ⟨x,q,p1,p2,p3,p4,p5,p6⟩ | ⟨x,q,pl,f,p1,p2,p3,p4,p5⟩
  ·simp only [p1,p2,I5,Option.bind_some]
   exact .inl ⟨_,q,rfl,rfl,by omega,p4,by simp only [szs]; omega,.un (.inr rfl) (C.pos k) p6⟩
  ·simp only [p1,p2,O6,Option.bind_some]
   exact .inr ⟨_,q,pl,f,rfl,rfl,by omega,p4,p5⟩
 simp (disch:=omega) only [e1,e2,SSx C]
 rcases sgx C hk 33 [] with ⟨b,hb,e1,e2,e3,e4,e5⟩ | ⟨b,e1,e2,e3,e4,e5⟩
 ·simp (disch:=omega) only [e1,e2,SSx C]
  rcases H.unary (k + 1) n n' (Nat.le_refl _) hb (by omega) (by omega) with ⟨x,q,p1,p2,p3,p4,p5,p6⟩ | ⟨x,q,pl,f,p1,p2,p3,p4,p5⟩
  ·simp only [p1,p2,I5,Option.bind_some]
   exact .inl ⟨_,q,rfl,rfl,by omega,p4,by simp only [szs]; omega,.un (.inl rfl) (C.pos k) p6⟩
  ·simp only [p1,p2,O6,Option.bind_some]
   exact .inr ⟨_,q,pl,f,rfl,rfl,by omega,p4,p5⟩
 simp (disch:=omega) only [e1,e2,SSx C]
 rcases post_at C (n:=n) (n':=n') hN (by omega) (by omega) hk H with ⟨x,q,p1,p2,p3,p4,p5,p6⟩ | ⟨x,q,pl,f,p1,p2,p3,p4,p5⟩
 ·simp only [p1,p2,I5,Option.bind_some,a0r]
  exact .inl ⟨x,q,rfl,rfl,p3,p4,p5,p6⟩
 ·simp only [p1,p2,O6,Option.bind_some,a0r]
  exact .inr ⟨x,q,pl,f,rfl,rfl,p3,p4,p5⟩
end
end Go.Proofs.YtlfomdllnidliaaGreatDoor
namespace Go.Proofs.YtlfomdllnidliaaGreatDoor
open Go Go.Vm
section
variable {l:List Tok} {size:Int} (C:Cx l size)
include C
theorem kyt {k:Nat} {a:UInt8} {r:Str} (h:isT l 9 (a :: r) k = true):k + 1 <= l.length /\ F3 (a :: r) l k size = some (true,((k + 1:Nat):Int)) /\ G9 (a :: r) l size k (-1) = some (true,((k + 1:Nat):Int)) /\ J2 (a :: r) l k size = some (.ok ((k + 1:Nat):Int)) /\ u7 0 9 (a :: r) l k size = some true /\ J5 9 (a :: r) l size k (-1) = some true:=by
 rcases kyx C (Nat.le_of_lt (a5Y h)) a r with ⟨_,h⟩ | ⟨h2,_⟩
 ·exact h
 ·rw [h] at h2; cases h2
theorem kyn {k:Nat} {a:UInt8} {r:Str} (hk:k <= l.length) (h:isT l 9 (a :: r) k = false):F3 (a :: r) l k size = some (false,(k:Int)) /\ G9 (a :: r) l size k (-1) = some (false,(k:Int)) /\ J2 (a :: r) l k size = some (.pan (H6 l size k,(k:Int))) /\ u7 0 9 (a :: r) l k size = some false /\ J5 9 (a :: r) l size k (-1) = some false:=by
 rcases kyx C hk a r with ⟨h2,_⟩ | ⟨_,h⟩
 ·rw [h] at h2; cases h2
 ·exact h
theorem b8G {N n n' k:Nat} (hN:24000 <= N) (hn:N + 1 <= n) (hn':N + 1 <= n') (hk:k <= l.length) (H:Hyp l size (k + 1) N) (hw:isT l 9 [108,101,116] k = true ∨ isT l 9 [118,97,114] k = true) :
    a3l l size k Nod.sz (G 1) ((j5.fs n).a0R l k size) ((o5.fs n').a3I l size k (-1)):=by
  have hl:=C.hl
  obtain ⟨n,rfl⟩:∃ q,n = q + 1:=⟨n - 1,by omega⟩
  obtain ⟨n',rfl⟩:∃ q,n' = q + 1:=⟨n' - 1,by omega⟩
  show a3l l size k Nod.sz (G 1) (a0K n (j5.fs n) l k size) (a4s n' (o5.fs n') l size k (-1))
  unfold a0K a4s
  obtain ⟨nn,hb,hnn,m1,m2⟩:∃ nn:Int,k + 1 <= l.length /\ (nn = 0 ∨ nn = 1) /\ ((F3 [118,97,114] l k size).bind fun (r5,at6) =>
      cond r5 (
      some (.brk (at6,1))) (
      C9 (J2 [108,101,116] l at6 size) (fun at7 =>
      some (.brk (at7,0))) fun (at8,at9) =>
      some (.out (.pan ((⟨(⟨20,at8⟩:Flt)⟩:o6),at9))))) = some (Lr.brk (α:=Int × Int) (ρ:=Rs (Nod × Int) (o6 × Int)) (((k + 1:Nat):Int),nn)) /\ ((G9 [118,97,114] l size k (-1)).bind fun (r6,at7) =>
      cond r6 (
      some (at7,(1:Int))) (
      (G9 [108,101,116] l size at7 (-1)).bind fun (r8,at9) =>
      some (at9,(0:Int)))) = some ((((k + 1:Nat):Int),nn):Int × Int):=by
    rcases kyx C hk 118 [97,114] with ⟨b,hb,e1,e2,e3,e4,e5⟩ | ⟨b,e1,e2,e3,e4,e5⟩
    · rw [e1,e2]; exact ⟨1,hb,.inr rfl,rfl,rfl⟩
    · have hw:isT l 9 [108,101,116] k = true:=by
        rcases hw with h | h
        · exact h
        · rw [h] at b; cases b
      obtain ⟨hb,f1,f2,f3,f4,f5⟩:=kyt C hw
      rw [e1,e2]
      simp only [Option.bind_some,cond_false]
      rw [f2,f3]; exact ⟨0,hb,.inl rfl,rfl,rfl⟩
  rw [a4a C hk,a6V C.hl hk,Option.bind_some,Option.bind_some,m1,m2,Z9,Option.bind_some]
  rcases nmx C hb with ⟨c,hc,e1,e2,e3⟩ | ⟨c,e1,e2,e3⟩
  case inr =>
    simp (disch:=omega) only [e1,e2,SSx C]
    exact .inr ⟨_,k + 1,-1,_,rfl,rfl,by omega,hb,a03 l size (k + 1)⟩
  have v1:eqB 1 1 = true:=a7e rfl
  have v2:eqB 0 1 = false:=a7d (by decide)
  have v3:eqB 1 0 = false:=a7d (by decide)
  have v4:eqB 0 0 = true:=a7e rfl
  simp (disch:=omega) only [e1,e2,SSx C]
  rcases sgx C hc 58 [] with ⟨b,hd,e1,e2,e3,e4,e5⟩ | ⟨b,e1,e2,e3,e4,e5⟩
  · simp (disch:=omega) only [e1,e2,SSx C]
    rcases typ4 C (n:=n) (n':=n') hd (by omega) (by omega) with ⟨t,r,p1,p2,p3,p4,p5⟩ | ⟨t,r,p1,p2,p3,p4⟩
    case inr =>
      simp (disch:=omega) only [p1,p2,SSx C]
      exact .inr ⟨_,r,-1,_,rfl,rfl,by omega,p4,a03 l size r⟩
    simp (disch:=omega) only [p1,p2,SSx C]
    rcases hnn with rfl | rfl
    · simp (disch:=omega) only [v2,SSx C]
      rcases sgx C p4 61 [] with ⟨b,hs,e1,e2,e3,e4,e5⟩ | ⟨b,e1,e2,e3,e4,e5⟩
      · simp (disch:=omega) only [e2,e3,SSx C]
        rcases H.expr (r + 1) n n' (by omega) hs (by omega) (by omega) with ⟨x,q,s1,s2,s3,s4,s5,s6⟩ | ⟨x,q,pl,f,s1,s2,s3,s4,s5⟩
        · simp (disch:=omega) only [s1,s2,SSx C]
          rcases sgx C s4 59 [] with ⟨b,hs,e1,e2,e3,e4,e5⟩ | ⟨b,e1,e2,e3,e4,e5⟩
          · simp (disch:=omega) only [e2,e3,SSx C]
            exact .inl ⟨⟨21,O8 l (k + 1),0,t,[],[x],H6 l size k⟩,q + 1,by rw [a7N],by rw [a7N],by omega,hs,by simp only [nsz,tsz,a8i,a8h,a7B,a7N]; omega,.let1 (C.pos k) (.inl rfl) s6⟩
          · simp (disch:=omega) only [e2,e3,SSx C]
            exact .inr ⟨_,q,-1,_,rfl,rfl,by omega,s4,a03 l size q⟩
        · simp (disch:=omega) only [s1,s2,SSx C]
          exact .inr ⟨_,q,pl,f,rfl,rfl,by omega,s4,s5⟩
      · simp (disch:=omega) only [e2,e3,v4,SSx C]
        exact .inr ⟨_,r,-1,_,rfl,rfl,by omega,p4,a03 l size (r)⟩
    · simp (disch:=omega) only [v1,SSx C]
      rcases sgx C p4 59 [] with ⟨b,hs,e1,e2,e3,e4,e5⟩ | ⟨b,e1,e2,e3,e4,e5⟩
      · obtain ⟨f1,f2,f3,f4,f5⟩:=sgf C p4 (b7x C b (u:=[61]) (by decide))
        simp (disch:=omega) only [e1,e2,f2,v3,SSx C]
        exact .inl ⟨_,r + 1,by rw [a7N],rfl,by omega,hs,by simp only [nsz,tsz,a8i,a8h,a7N]; omega,.let0 (C.pos k)⟩
      · simp (disch:=omega) only [e1,SSx C]
        have g2:=e2
        rcases sgx C p4 61 [] with ⟨b,hs,e1,e2,e3,e4,e5⟩ | ⟨b,e1,e2,e3,e4,e5⟩
        · simp (disch:=omega) only [e2,e3,SSx C]
          rcases H.expr (r + 1) n n' (by omega) hs (by omega) (by omega) with ⟨x,q,s1,s2,s3,s4,s5,s6⟩ | ⟨x,q,pl,f,s1,s2,s3,s4,s5⟩
          · simp (disch:=omega) only [s1,s2,SSx C]
            rcases sgx C s4 59 [] with ⟨b,hs,e1,e2,e3,e4,e5⟩ | ⟨b,e1,e2,e3,e4,e5⟩
            · simp (disch:=omega) only [e2,e3,SSx C]
              exact .inl ⟨⟨21,O8 l (k + 1),1,t,[],[x],H6 l size k⟩,q + 1,by rw [a7N],by rw [a7N],by omega,hs,by simp only [nsz,tsz,a8i,a8h,a7B,a7N]; omega,.let1 (C.pos k) (.inr rfl) s6⟩
            · simp (disch:=omega) only [e2,e3,SSx C]
              exact .inr ⟨_,q,-1,_,rfl,rfl,by omega,s4,a03 l size q⟩
          · simp (disch:=omega) only [s1,s2,SSx C]
            exact .inr ⟨_,q,pl,f,rfl,rfl,by omega,s4,s5⟩
        · simp (disch:=omega) only [e2,e3,g2,v3,SSx C]
          exact .inr ⟨_,r,-1,_,rfl,rfl,by omega,p4,a03 l size (r)⟩
  · simp (disch:=omega) only [e1,e2,SSx C]
    rcases hnn with rfl | rfl
    · simp (disch:=omega) only [v2,SSx C]
      rcases sgx C hc 61 [] with ⟨b,hs,e1,e2,e3,e4,e5⟩ | ⟨b,e1,e2,e3,e4,e5⟩
      · simp (disch:=omega) only [e2,e3,SSx C]
        rcases H.expr (k + 1 + 1 + 1) n n' (by omega) hs (by omega) (by omega) with ⟨x,q,s1,s2,s3,s4,s5,s6⟩ | ⟨x,q,pl,f,s1,s2,s3,s4,s5⟩
        · simp (disch:=omega) only [s1,s2,SSx C]
          rcases sgx C s4 59 [] with ⟨b,hs,e1,e2,e3,e4,e5⟩ | ⟨b,e1,e2,e3,e4,e5⟩
          · simp (disch:=omega) only [e2,e3,SSx C]
            exact .inl ⟨⟨21,O8 l (k + 1),0,zT,[],[x],H6 l size k⟩,q + 1,rfl,rfl,by omega,hs,by simp only [nsz,tsz,a8i,a8h,a7B,a7N]; omega,.let1 (C.pos k) (.inl rfl) s6⟩
          · simp (disch:=omega) only [e2,e3,SSx C]
            exact .inr ⟨_,q,-1,_,rfl,rfl,by omega,s4,a03 l size q⟩
        · simp (disch:=omega) only [s1,s2,SSx C]
          exact .inr ⟨_,q,pl,f,rfl,rfl,by omega,s4,s5⟩
      · simp (disch:=omega) only [e2,e3,v4,SSx C]
        exact .inr ⟨_,k + 1 + 1,-1,_,rfl,rfl,by omega,hc,a03 l size (k + 1 + 1)⟩
    · simp (disch:=omega) only [v1,SSx C]
      rcases sgx C hc 61 [] with ⟨b,hs,e1,e2,e3,e4,e5⟩ | ⟨b,e1,e2,e3,e4,e5⟩
      · simp (disch:=omega) only [e2,e3,SSx C]
        rcases H.expr (k + 1 + 1 + 1) n n' (by omega) hs (by omega) (by omega) with ⟨x,q,s1,s2,s3,s4,s5,s6⟩ | ⟨x,q,pl,f,s1,s2,s3,s4,s5⟩
        · simp (disch:=omega) only [s1,s2,SSx C]
          rcases sgx C s4 59 [] with ⟨b,hs,e1,e2,e3,e4,e5⟩ | ⟨b,e1,e2,e3,e4,e5⟩
          · simp (disch:=omega) only [e2,e3,SSx C]
            exact .inl ⟨⟨21,O8 l (k + 1),1,zT,[],[x],H6 l size k⟩,q + 1,rfl,rfl,by omega,hs,by simp only [nsz,tsz,a8i,a8h,a7B,a7N]; omega,.let1 (C.pos k) (.inr rfl) s6⟩
          · simp (disch:=omega) only [e2,e3,SSx C]
            exact .inr ⟨_,q,-1,_,rfl,rfl,by omega,s4,a03 l size q⟩
        · simp (disch:=omega) only [s1,s2,SSx C]
          exact .inr ⟨_,q,pl,f,rfl,rfl,by omega,s4,s5⟩
      · simp (disch:=omega) only [e2,e3,v3,SSx C]
        exact .inr ⟨_,k + 1 + 1,-1,_,rfl,rfl,by omega,hc,a03 l size (k + 1 + 1)⟩
theorem block_at {N n n' k:Nat} (hN:24000 <= N) (hn:N + 1 <= n) (hn':N + 1 <= n') (hk:k <= l.length) (H:Hyp l size (k + 1) N) :
  a3l l size k Nod.sz (G 2) ((j5.fs n).F8 l k size) ((o5.fs n').X4 l size k (-1)):=by
 have hl:=C.hl
 obtain ⟨n,rfl⟩:∃ q,n = q + 1:=⟨n - 1,by omega⟩
 obtain ⟨n',rfl⟩:∃ q,n' = q + 1:=⟨n' - 1,by omega⟩
 show a3l l size k Nod.sz (G 2) (a0J n (j5.fs n) l k size) (a4r n' (o5.fs n') l size k (-1))
 unfold a0J a4r
 rcases sgx C hk 123 [] with ⟨b,hb,e1,e2,e3,e4,e5⟩ | ⟨b,e1,e2,e3,e4,e5⟩
 ·simp (disch:=omega) only [e2,e3,SSx C]
  rcases H.stmts (k + 1) n n' (Nat.le_refl _) hb (by omega) (by omega) with ⟨x,q,p1,p2,p3,p4,p5,p6⟩ | ⟨x,q,pl,f,p1,p2,p3,p4,p5⟩
  ·have p5:szN x + 4 + 4 * (k + 1) <= 4 * q:=p5
   simp (disch:=omega) only [p1,p2,SSx C]
   exact .inl ⟨_,q,rfl,rfl,by omega,p4,by simp only [szs]; omega,.block (C.pos k) p6⟩
  ·simp (disch:=omega) only [p1,p2,SSx C]
   exact .inr ⟨_,q,pl,f,rfl,rfl,by omega,p4,p5⟩
 ·simp (disch:=omega) only [e2,e3,SSx C]
  exact .inr ⟨_,k,-1,_,rfl,rfl,Nat.le_refl _,hk,a03 l size k⟩
theorem if_at {N n n' k:Nat} (hN:24000 <= N) (hn:N + 1 <= n) (hn':N + 1 <= n') (hk:k <= l.length) (H:Hyp l size (k + 1) N) (hw:isT l 9 [105,102] k = true) :
  a3l l size k Nod.sz (fun x=>G 1 x /\ x.op = 24) ((j5.fs n).M7 l k size) ((o5.fs n').a0Y l size k (-1)):=by
 have hl:=C.hl
 obtain ⟨n,rfl⟩:∃ q,n = q + 1:=⟨n - 1,by omega⟩
 obtain ⟨n',rfl⟩:∃ q,n' = q + 1:=⟨n' - 1,by omega⟩
 show a3l l size k Nod.sz (fun x=>G 1 x /\ x.op = 24) (V5 n (j5.fs n) l k size) (a2z n' (o5.fs n') l size k (-1))
 unfold V5 a2z
 obtain ⟨hb,e1,e2,e3,e4,e5⟩:=kyt C hw
 simp (disch:=omega) only [e2,e3,SSx C]
 rcases H.expr (k + 1) n n' (Nat.le_refl _) hb (by omega) (by omega) with ⟨x,q,p1,p2,p3,p4,p5,p6⟩ | ⟨x,q,pl,f,p1,p2,p3,p4,p5⟩
 case inr =>
  simp (disch:=omega) only [p1,p2,SSx C]
  exact .inr ⟨_,q,pl,f,rfl,rfl,by omega,p4,p5⟩
 have hx:=x.a13
 simp (disch:=omega) only [p1,p2,SSx C]
 rcases H.block q n n' (by omega) p4 (by omega) (by omega) with ⟨y,q2,r1,r2,r3,r4,r5,r6⟩ | ⟨y,q2,pl,f,r1,r2,r3,r4,r5⟩
 case inr =>
  simp (disch:=omega) only [r1,r2,SSx C]
  exact .inr ⟨_,q2,pl,f,rfl,rfl,by omega,r4,r5⟩
 have hy:=y.a13
 simp (disch:=omega) only [r1,r2,b58 x y (show 144 <= 1000 by omega),SSx C]
 rcases kyx C r4 101 [108,115,101] with ⟨b,hb,e1,e2,e3,e4,e5⟩ | ⟨b,e1,e2,e3,e4,e5⟩
 ·simp (disch:=omega) only [e1,e2,SSx C]
  rcases kyx C hb 105 [102] with ⟨b,hb2,e1,e2,e3,e4,e5⟩ | ⟨b,e1,e2,e3,e4,e5⟩
  ·simp (disch:=omega) only [e4,e5,SSx C]
   rcases H.iff (q2 + 1) n n' b (by omega) hb (by omega) (by omega) with ⟨z,q3,s1,s2,s3,s4,s5,s6⟩ | ⟨z,q3,pl,f,s1,s2,s3,s4,s5⟩
   ·simp (disch:=omega) only [s1,s2,app_2 x y z (show 144 <= 1000 by omega),SSx C]
    exact .inl ⟨_,q3,rfl,rfl,by omega,s4,by simp only [szs]; omega,.if4 (C.pos k) p6 r6 s6.1 s6.2,rfl⟩
   ·simp (disch:=omega) only [s1,s2,SSx C]
    exact .inr ⟨_,q3,pl,f,rfl,rfl,by omega,s4,s5⟩
  ·simp (disch:=omega) only [e4,e5,SSx C]
   rcases H.block (q2 + 1) n n' (by omega) hb (by omega) (by omega) with ⟨z,q3,s1,s2,s3,s4,s5,s6⟩ | ⟨z,q3,pl,f,s1,s2,s3,s4,s5⟩
   ·simp (disch:=omega) only [s1,s2,app_2 x y z (show 144 <= 1000 by omega),SSx C]
    exact .inl ⟨_,q3,rfl,rfl,by omega,s4,by simp only [szs]; omega,.if3 (C.pos k) p6 r6 s6,rfl⟩
   ·simp (disch:=omega) only [s1,s2,SSx C]
    exact .inr ⟨_,q3,pl,f,rfl,rfl,by omega,s4,s5⟩
 ·simp (disch:=omega) only [e1,e2,SSx C]
  exact .inl ⟨_,q2,rfl,rfl,by omega,r4,by simp only [szs]; omega,.if2 (C.pos k) p6 r6,rfl⟩
theorem b45 {N n n' k0:Nat} {x0:Nod} (hN:24000 <= N) (hn:N <= n) (hn':N <= n') (H:Hyp l size (k0 + 1) N):∀ (m m' k:Nat) (xs:List Nod),k0 <= k -> k <= l.length -> l.length - k < m -> l.length - k < m' -> szN xs + 4 * k0 <= 4 * k -> (∀ x ∈ xs,G 5 x) ->
  (∃ (q:Nat) (ys:List Nod),V9 n (j5.fs n) size l m k (x0 :: xs) = some (.brk ((q:Int),x0 :: ys)) /\ a1O n' (o5.fs n') size l m' (x0 :: xs) k (-1) = some (.brk (x0 :: ys,(q:Int),-1)) /\ k <= q /\ q <= l.length /\ szN ys + 4 * k0 <= 4 * q /\ ∀ x ∈ ys,G 5 x) ∨
  (∃ (q:Nat) (y:List Nod) (pl:Int) (f:o6),V9 n (j5.fs n) size l m k (x0 :: xs) = some (.out (.pan (f,(q:Int)))) /\ a1O n' (o5.fs n') size l m' (x0 :: xs) k (-1) = some (.out (y,false,(q:Int),pl)) /\ k <= q /\ q <= l.length /\ a4w l size q pl f)
 | 0,m',k,xs,h1,h2,h3,h4,h5,h6=>by omega
 | m + 1,0,k,xs,h1,h2,h3,h4,h5,h6=>by omega
 | m + 1,m' + 1,k,xs,h1,h2,h3,h4,h5,h6=>by
  have hl:=C.hl
  have hlen:=a0e xs
  rw [V9.eq_2,a1O.eq_2]
  rcases kyx C h2 99 [97,115,101] with ⟨b,hb,e1,e2,e3,e4,e5⟩ | ⟨b,e1,e2,e3,e4,e5⟩
  ·simp (disch:=omega) only [e4,e5,e2,SSx C]
   rcases pat_sim C (n:=n) (n':=n') hb (by omega) (by omega) with ⟨x,q,p1,p2,p3,p4,p5,p6⟩ | ⟨x,q,p1,p2,p3,p4⟩
   case inr =>
    simp (disch:=omega) only [p1,p2,SSx C]
    exact .inr ⟨q,_,-1,_,rfl,rfl,by omega,p4,a03 l size q⟩
   have hx:=x.a13
   simp (disch:=omega) only [p1,p2,SSx C]
   rcases H.block q n n' (by omega) p4 (by omega) (by omega) with ⟨y,q2,r1,r2,r3,r4,r5,r6⟩ | ⟨y,q2,pl,f,r1,r2,r3,r4,r5⟩
   case inr =>
    simp (disch:=omega) only [r1,r2,SSx C]
    exact .inr ⟨q2,_,pl,f,rfl,rfl,by omega,r4,r5⟩
   have hy:=y.a13
   have a1:app 144 (x0 :: xs) [(⟨27,[],0,zT,[],[x,y],H6 l size k⟩:Nod)] = some (x0 :: (xs ++ [(⟨27,[],0,zT,[],[x,y],H6 l size k⟩:Nod)])):=a1L (l:=x0 :: xs) (by simp only [List.length_cons]; omega) (by simp) (by omega)
   simp (disch:=omega) only [r1,r2,b58 x y (show 144 <= 1000 by omega),a1,SSx C]
   rcases b45 hN hn hn' H m m' q2 (xs ++ [(⟨27,[],0,zT,[],[x,y],H6 l size k⟩:Nod)]) (by omega) r4 (by omega) (by omega) (by simp only [szs]; omega) (a5v h6 (a4x (.arm (C.pos k) p6 r6))) with ⟨q',ys,y1,y2,y3,y4,y5,y6⟩ | ⟨q',y,pl,f,y1,y2,y3,y4,y5⟩
   ·exact .inl ⟨q',ys,y1,y2,by omega,y4,y5,y6⟩
   ·exact .inr ⟨q',y,pl,f,y1,y2,by omega,y4,y5⟩
  ·simp (disch:=omega) only [e4,e5,SSx C]
   exact .inl ⟨k,xs,rfl,rfl,Nat.le_refl _,h2,h5,h6⟩
theorem match_at {N n n' k:Nat} (hN:24000 <= N) (hn:N + 1 <= n) (hn':N + 1 <= n') (hk:k <= l.length) (H:Hyp l size (k + 1) N) (hw:isT l 9 [109,97,116,99,104] k = true) :
  a3l l size k Nod.sz (G 1) ((j5.fs n).a0S l k size) (((o5.fs n').a3J (H6 l size k) l size ((k + 1:Nat):Int) (-1)).bind fun (l29,r30,at31,b2C)=>some (((⟨26,[],0,(⟨0,[],0,[]⟩:Typ),[],l29,H6 l size k⟩:Nod),r30,at31,b2C))):=by
 have hl:=C.hl
 obtain ⟨n,rfl⟩:∃ q,n = q + 1:=⟨n - 1,by omega⟩
 obtain ⟨n',rfl⟩:∃ q,n' = q + 1:=⟨n' - 1,by omega⟩
 show a3l l size k Nod.sz (G 1) (a0L n (j5.fs n) l k size) ((a4t n' (o5.fs n') (H6 l size k) l size ((k + 1:Nat):Int) (-1)).bind fun (l29,r30,at31,b2C)=>some (((⟨26,[],0,(⟨0,[],0,[]⟩:Typ),[],l29,H6 l size k⟩:Nod),r30,at31,b2C)))
 unfold a0L a4t
 obtain ⟨hb,e1,e2,e3,e4,e5⟩:=kyt C hw
 simp (disch:=omega) only [e3,SSx C]
 rcases H.expr (k + 1) n n' (Nat.le_refl _) hb (by omega) (by omega) with ⟨x,q,p1,p2,p3,p4,p5,p6⟩ | ⟨x,q,pl,f,p1,p2,p3,p4,p5⟩
 case inr =>
  simp (disch:=omega) only [p1,p2,SSx C]
  exact .inr ⟨_,q,pl,f,rfl,rfl,by omega,p4,p5⟩
 have hx:=x.a13
 simp (disch:=omega) only [p1,p2,SSx C]
 rcases sgx C p4 123 [] with ⟨b,hb2,e1,e2,e3,e4,e5⟩ | ⟨b,e1,e2,e3,e4,e5⟩
 case inr =>
  simp (disch:=omega) only [e2,e3,SSx C]
  exact .inr ⟨_,q,-1,_,rfl,rfl,by omega,p4,a03 l size q⟩
 simp (disch:=omega) only [e2,e3,SSx C]
 rcases b45 C (n:=n) (n':=n') (k0:=q) (x0:=x) hN (by omega) (by omega) ⟨fun k n n' h=>H.expr k n n' (by omega),fun k n n' h=>H.unary k n n' (by omega),fun j k n n' hj h=>H.lev j k n n' hj (by omega),fun m0 k n n' hm h=>H.args m0 k n n' hm (by omega),fun k n n' h=>H.stmts k n n' (by omega),fun k n n' h=>H.stmt k n n' (by omega),fun k n n' h=>H.block k n n' (by omega),fun k n n' hi h=>H.iff k n n' hi (by omega)⟩ n n' (q + 1) [] (by omega) hb2 (by omega) (by omega) (by simp only [szs]; omega) all_nil with ⟨q',ys,y1,y2,y3,y4,y5,y6⟩ | ⟨q',y,pl,f,y1,y2,y3,y4,y5⟩
 case inr =>
  simp (disch:=omega) only [y1,y2,SSx C]
  exact .inr ⟨_,q',pl,f,rfl,rfl,by omega,y4,y5⟩
 have hyl:=a0e ys
 simp (disch:=omega) only [y1,y2,SSx C]
 rcases kyx C y4 100 [101,102,97,117,108,116] with ⟨b,hb,e1,e2,e3,e4,e5⟩ | ⟨b,e1,e2,e3,e4,e5⟩
 ·simp (disch:=omega) only [e1,e2,e5,SSx C]
  rcases H.block (q' + 1) n n' (by omega) hb (by omega) (by omega) with ⟨z,q3,s1,s2,s3,s4,s5,s6⟩ | ⟨z,q3,pl,f,s1,s2,s3,s4,s5⟩
  case inr =>
   simp (disch:=omega) only [s1,s2,SSx C]
   exact .inr ⟨_,q3,pl,f,rfl,rfl,by omega,s4,s5⟩
  have a1:∀ w:Nod,app 144 (x :: ys) [w] = some (x :: (ys ++ [w])):=fun w=>a1L (l:=x :: ys) (by simp only [List.length_cons]; omega) (by simp) (by omega)
  simp (disch:=omega) only [s1,s2,b58 _ z (show 144 <= 1000 by omega),a1,SSx C]
  rcases sgx C s4 125 [] with ⟨b,hb2,e1,e2,e3,e4,e5⟩ | ⟨b,e1,e2,e3,e4,e5⟩
  ·simp (disch:=omega) only [e2,e3,SSx C]
   exact .inl ⟨_,q3 + 1,rfl,rfl,by omega,hb2,by simp only [szs]; omega,.mat (C.pos k) p6 (a5v y6 (a4x (.arm (C.pos q') (.wild (C.pos q')) s6)))⟩
  ·simp (disch:=omega) only [e2,e3,SSx C]
   exact .inr ⟨_,q3,-1,_,rfl,rfl,by omega,s4,a03 l size q3⟩
 ·simp (disch:=omega) only [e1,e2,e5,SSx C]
  rcases sgx C y4 125 [] with ⟨b,hb2,e1,e2,e3,e4,e5⟩ | ⟨b,e1,e2,e3,e4,e5⟩
  ·simp (disch:=omega) only [e2,e3,SSx C]
   exact .inl ⟨_,q' + 1,rfl,rfl,by omega,hb2,by simp only [szs]; omega,.mat (C.pos k) p6 y6⟩
  ·simp (disch:=omega) only [e2,e3,SSx C]
   exact .inr ⟨_,q',-1,_,rfl,rfl,by omega,y4,a03 l size q'⟩
theorem kyv {k:Nat} (hk:k <= l.length) (a:UInt8) (r:Str):G9 (a :: r) l size k (-1) = some (isT l 9 (a :: r) k,((cond (isT l 9 (a :: r) k) (k + 1) k:Nat):Int)):=by
 rcases kyx C hk a r with ⟨b,_,_,e,_⟩ | ⟨b,_,e,_⟩ <;> rw [e,b] <;> rfl
theorem nxv {k:Nat} (hk:k <= l.length) (a:UInt8) (r:Str):J5 9 (a :: r) l size k (-1) = some (isT l 9 (a :: r) k):=a7X C.hl hk size (-1) 9 (a :: r)
omit C in
theorem wq:eqS [108,101,116] [108,101,116] = true /\ eqS [108,101,116] [118,97,114] = false /\ eqS [108,101,116] [105,102] = false /\ eqS [108,101,116] [109,97,116,99,104] = false /\ eqS [108,101,116] [100,101,102,101,114] = false /\ eqS [108,101,116] [119,104,105,108,101] = false /\ eqS [108,101,116] [114,101,116,117,114,110] = false /\ eqS [108,101,116] [116,104,114,111,119] = false /\ eqS [108,101,116] [100,111] = false /\ eqS [118,97,114] [108,101,116] = false /\ eqS [118,97,114] [118,97,114] = true /\ eqS [118,97,114] [105,102] = false /\ eqS [118,97,114] [109,97,116,99,104] = false /\ eqS [118,97,114] [100,101,102,101,114] = false /\ eqS [118,97,114] [119,104,105,108,101] = false /\ eqS [118,97,114] [114,101,116,117,114,110] = false /\ eqS [118,97,114] [116,104,114,111,119] = false /\ eqS [118,97,114] [100,111] = false /\ eqS [105,102] [108,101,116] = false /\ eqS [105,102] [118,97,114] = false /\ eqS [105,102] [105,102] = true /\ eqS [105,102] [109,97,116,99,104] = false /\ eqS [105,102] [100,101,102,101,114] = false /\ eqS [105,102] [119,104,105,108,101] = false /\ eqS [105,102] [114,101,116,117,114,110] = false /\ eqS [105,102] [116,104,114,111,119] = false /\ eqS [105,102] [100,111] = false /\ eqS [109,97,116,99,104] [108,101,116] = false /\ eqS [109,97,116,99,104] [118,97,114] = false /\ eqS [109,97,116,99,104] [105,102] = false /\ eqS [109,97,116,99,104] [109,97,116,99,104] = true /\ eqS [109,97,116,99,104] [100,101,102,101,114] = false /\ eqS [109,97,116,99,104] [119,104,105,108,101] = false /\ eqS [109,97,116,99,104] [114,101,116,117,114,110] = false /\ eqS [109,97,116,99,104] [116,104,114,111,119] = false /\ eqS [109,97,116,99,104] [100,111] = false /\ eqS [100,101,102,101,114] [108,101,116] = false /\ eqS [100,101,102,101,114] [118,97,114] = false /\ eqS [100,101,102,101,114] [105,102] = false /\ eqS [100,101,102,101,114] [109,97,116,99,104] = false /\ eqS [100,101,102,101,114] [100,101,102,101,114] = true /\ eqS [100,101,102,101,114] [119,104,105,108,101] = false /\ eqS [100,101,102,101,114] [114,101,116,117,114,110] = false /\ eqS [100,101,102,101,114] [116,104,114,111,119] = false /\ eqS [100,101,102,101,114] [100,111] = false /\ eqS [119,104,105,108,101] [108,101,116] = false /\ eqS [119,104,105,108,101] [118,97,114] = false /\ eqS [119,104,105,108,101] [105,102] = false /\ eqS [119,104,105,108,101] [109,97,116,99,104] = false /\ eqS [119,104,105,108,101] [100,101,102,101,114] = false /\ eqS [119,104,105,108,101] [119,104,105,108,101] = true /\ eqS [119,104,105,108,101] [114,101,116,117,114,110] = false /\ eqS [119,104,105,108,101] [116,104,114,111,119] = false /\ eqS [119,104,105,108,101] [100,111] = false /\ eqS [114,101,116,117,114,110] [108,101,116] = false /\ eqS [114,101,116,117,114,110] [118,97,114] = false /\ eqS [114,101,116,117,114,110] [105,102] = false /\ eqS [114,101,116,117,114,110] [109,97,116,99,104] = false /\ eqS [114,101,116,117,114,110] [100,101,102,101,114] = false /\ eqS [114,101,116,117,114,110] [119,104,105,108,101] = false /\ eqS [114,101,116,117,114,110] [114,101,116,117,114,110] = true /\ eqS [114,101,116,117,114,110] [116,104,114,111,119] = false /\ eqS [114,101,116,117,114,110] [100,111] = false /\ eqS [116,104,114,111,119] [108,101,116] = false /\ eqS [116,104,114,111,119] [118,97,114] = false /\ eqS [116,104,114,111,119] [105,102] = false /\ eqS [116,104,114,111,119] [109,97,116,99,104] = false /\ eqS [116,104,114,111,119] [100,101,102,101,114] = false /\ eqS [116,104,114,111,119] [119,104,105,108,101] = false /\ eqS [116,104,114,111,119] [114,101,116,117,114,110] = false /\ eqS [116,104,114,111,119] [116,104,114,111,119] = true /\ eqS [116,104,114,111,119] [100,111] = false /\ eqS [100,111] [108,101,116] = false /\ eqS [100,111] [118,97,114] = false /\ eqS [100,111] [105,102] = false /\ eqS [100,111] [109,97,116,99,104] = false /\ eqS [100,111] [100,101,102,101,114] = false /\ eqS [100,111] [119,104,105,108,101] = false /\ eqS [100,111] [114,101,116,117,114,110] = false /\ eqS [100,111] [116,104,114,111,119] = false /\ eqS [100,111] [100,111] = true:=by simp [eqS]
theorem stmt_at {N n n' k:Nat} (hN:24000 <= N) (hn:N + 17 <= n) (hn':N + 17 <= n') (hk:k <= l.length) (H:Hyp l size (k + 1) N) (E:∀ n n',N + 15 <= n -> N + 15 <= n' -> a3l l size k Nod.sz (G 0) ((j5.fs n).A8 l k size) ((o5.fs n').M5 l size k (-1))) :
    a3l l size k Nod.sz (G 1) ((j5.fs n).O0 l k size) ((o5.fs n').a0n l size k (-1)):=by
  have hl:=C.hl
  obtain ⟨n,rfl⟩:∃ q,n = q + 1:=⟨n - 1,by omega⟩
  obtain ⟨n',rfl⟩:∃ q,n' = q + 1:=⟨n' - 1,by omega⟩
  show a3l l size k Nod.sz (G 1) (I8 n (j5.fs n) l k size) (M8 n' (o5.fs n') l size k (-1))
  have word:∀ b,isK l 9 k = b -> ((u7 0 9 [] l k size).bind fun r4 =>
      cond r4 (
      (idx' l (k:Int)).bind fun x5 =>
      some x5.text) (
      some [])) = some (cond b (O8 l k) []):=by
    intro b hb
    rw [b4V C.hl hk size 9,hb]
    cases b
    · rfl
    · obtain ⟨_,t,t0,t1,_⟩:=kdt C hb
      simp only [Option.bind_some,cond_true,t0,t1]
  have fw:∀ w,isT l 9 w k = (isK l 9 k && eqS (O8 l k) w):=fun w=>b6A C 9 w k
  have dflt:∀ u:Str,isT l 9 [108,101,116] k = false -> isT l 9 [118,97,114] k = false -> isT l 9 [105,102] k = false -> isT l 9 [109,97,116,99,104] k = false -> isT l 9 [100,101,102,101,114] k = false -> isT l 9 [119,104,105,108,101] k = false -> isT l 9 [114,101,116,117,114,110] k = false -> isT l 9 [116,104,114,111,119] k = false -> isT l 9 [100,111] k = false -> eqS u [108,101,116] = false -> eqS u [118,97,114] = false -> eqS u [105,102] = false -> eqS u [109,97,116,99,104] = false -> eqS u [100,101,102,101,114] = false -> eqS u [119,104,105,108,101] = false -> eqS u [114,101,116,117,114,110] = false -> eqS u [116,104,114,111,119] = false -> eqS u [100,111] = false -> ((u7 0 9 [] l k size).bind fun r4 =>
      cond r4 (
      (idx' l (k:Int)).bind fun x5 =>
      some x5.text) (
      some [])) = some u -> a3l l size k Nod.sz (G 1) (I8 n (j5.fs n) l k size) (M8 n' (o5.fs n') l size k (-1)):=by
    intro u f0 f1 f2 f3 f4 f5 f6 f7 f8 g0 g1 g2 g3 g4 g5 g6 g7 g8 hu
    unfold I8 M8
    rw [hu]
    simp (disch:=omega) only [kyv C hk,nxv C hk,f0,f1,f2,f3,f4,f5,f6,f7,f8,g0,g1,g2,g3,g4,g5,g6,g7,g8,SSx C]
    obtain ⟨n1,rfl⟩:∃ q,n' = q + 1:=⟨n' - 1,by omega⟩
    have hsim:(o5.fs (n1 + 1)).a3i l size k (-1) = a3U n1 (o5.fs n1) l size k (-1):=rfl
    rw [hsim]
    unfold a3U
    rcases E n n1 (by omega) (by omega) with ⟨x,q,p1,p2,p3,p4,p5,p6⟩ | ⟨x,q,pl,f,p1,p2,p3,p4,p5⟩
    case inr =>
      simp (disch:=omega) only [p1,p2,SSx C]
      exact .inr ⟨_,q,pl,f,rfl,rfl,p3,p4,p5⟩
    have hx:=x.a13
    simp (disch:=omega) only [p1,p2,SSx C]
    rcases sgx C p4 61 [] with ⟨b,hb,e1,e2,e3,e4,e5⟩ | ⟨b,e1,e2,e3,e4,e5⟩
    · simp (disch:=omega) only [e4,e5,e2,e3,SSx C]
      obtain ⟨pb,pb1,pb2⟩:=c1B p6 (n:=n) (n':=n1) (by omega) (by omega)
      rw [pb1,pb2]
      cases pb
      · simp (disch:=omega) only [SSx C]
        exact .inr ⟨_,q,x.at_,_,rfl,rfl,p3,p4,.inr ⟨p6.at,rfl⟩⟩
      · simp (disch:=omega) only [e2,SSx C]
        rcases H.expr (q + 1) n n1 (by omega) hb (by omega) (by omega) with ⟨y,q2,r1,r2,r3,r4,r5,r6⟩ | ⟨y,q2,pl,f,r1,r2,r3,r4,r5⟩
        case inr =>
          simp (disch:=omega) only [r1,r2,SSx C]
          exact .inr ⟨_,q2,pl,f,rfl,rfl,by omega,r4,r5⟩
        simp (disch:=omega) only [r1,r2,b58 x y (show 144 <= 1000 by omega),SSx C]
        rcases sgx C r4 59 [] with ⟨b,hs,e1,e2,e3,e4,e5⟩ | ⟨b,e1,e2,e3,e4,e5⟩
        · simp (disch:=omega) only [e2,e3,SSx C]
          exact .inl ⟨_,q2 + 1,rfl,rfl,by omega,hs,by simp only [szs]; omega,.assign p6.at p6 r6⟩
        · simp (disch:=omega) only [e2,e3,SSx C]
          exact .inr ⟨_,q2,-1,_,rfl,rfl,by omega,r4,a03 l size q2⟩
    · simp (disch:=omega) only [e4,e5,SSx C]
      rcases sgx C p4 59 [] with ⟨b,hs,e1,e2,e3,e4,e5⟩ | ⟨b,e1,e2,e3,e4,e5⟩
      · simp (disch:=omega) only [e2,e3,SSx C]
        exact .inl ⟨_,q + 1,rfl,rfl,by omega,hs,by simp only [szs]; omega,.sole p6.at p6⟩
      · simp (disch:=omega) only [e2,e3,SSx C]
        exact .inr ⟨_,q,-1,_,rfl,rfl,by omega,p4,a03 l size q⟩
  cases hK:isK l 9 k
  · refine dflt [] (by rw [fw,hK]; rfl) (by rw [fw,hK]; rfl) (by rw [fw,hK]; rfl) (by rw [fw,hK]; rfl) (by rw [fw,hK]; rfl) (by rw [fw,hK]; rfl) (by rw [fw,hK]; rfl) (by rw [fw,hK]; rfl) (by rw [fw,hK]; rfl) (by simp [eqS]) (by simp [eqS]) (by simp [eqS]) (by simp [eqS]) (by simp [eqS]) (by simp [eqS]) (by simp [eqS]) (by simp [eqS]) (by simp [eqS]) (word _ hK)
  by_cases hw:O8 l k = [108,101,116]
  · have hu:=word _ hK
    rw [cond_true,hw] at hu
    have hT:isT l 9 [108,101,116] k = true:=by rw [fw,hK,hw]; exact a2R _
    have hb:k + 1 <= l.length:=a5Y hT
    unfold I8 M8
    rw [hu]
    simp (disch:=omega) only [kyv C hk,nxv C hk,fw,hK,hw,Bool.true_and,wq,SSx C]
    rcases b8G C (n:=n) (n':=n') hN (by omega) (by omega) hk H (.inl hT) with ⟨x,q,p1,p2,p3,p4,p5,p6⟩ | ⟨x,q,pl,f,p1,p2,p3,p4,p5⟩
    · simp only [p1,p2,I5,Option.bind_some]
      exact .inl ⟨x,q,rfl,rfl,p3,p4,p5,p6⟩
    · simp only [p1,p2,O6,Option.bind_some]
      exact .inr ⟨x,q,pl,f,rfl,rfl,p3,p4,p5⟩
  have hw0:=hw
  clear hw
  by_cases hw:O8 l k = [118,97,114]
  · have hu:=word _ hK
    rw [cond_true,hw] at hu
    have hT:isT l 9 [118,97,114] k = true:=by rw [fw,hK,hw]; exact a2R _
    have hb:k + 1 <= l.length:=a5Y hT
    unfold I8 M8
    rw [hu]
    simp (disch:=omega) only [kyv C hk,nxv C hk,fw,hK,hw,Bool.true_and,wq,SSx C]
    rcases b8G C (n:=n) (n':=n') hN (by omega) (by omega) hk H (.inr hT) with ⟨x,q,p1,p2,p3,p4,p5,p6⟩ | ⟨x,q,pl,f,p1,p2,p3,p4,p5⟩
    · simp only [p1,p2,I5,Option.bind_some]
      exact .inl ⟨x,q,rfl,rfl,p3,p4,p5,p6⟩
    · simp only [p1,p2,O6,Option.bind_some]
      exact .inr ⟨x,q,pl,f,rfl,rfl,p3,p4,p5⟩
  have hw1:=hw
  clear hw
  by_cases hw:O8 l k = [105,102]
  · have hu:=word _ hK
    rw [cond_true,hw] at hu
    have hT:isT l 9 [105,102] k = true:=by rw [fw,hK,hw]; exact a2R _
    have hb:k + 1 <= l.length:=a5Y hT
    unfold I8 M8
    rw [hu]
    simp (disch:=omega) only [kyv C hk,nxv C hk,fw,hK,hw,Bool.true_and,wq,SSx C]
    rcases if_at C (n:=n) (n':=n') hN (by omega) (by omega) hk H hT with ⟨x,q,p1,p2,p3,p4,p5,p6⟩ | ⟨x,q,pl,f,p1,p2,p3,p4,p5⟩
    · simp only [p1,p2,I5,Option.bind_some]
      exact .inl ⟨x,q,rfl,rfl,p3,p4,p5,p6.1⟩
    · simp only [p1,p2,O6,Option.bind_some]
      exact .inr ⟨x,q,pl,f,rfl,rfl,p3,p4,p5⟩
  have hw2:=hw
  clear hw
  by_cases hw:O8 l k = [109,97,116,99,104]
  · have hu:=word _ hK
    rw [cond_true,hw] at hu
    have hT:isT l 9 [109,97,116,99,104] k = true:=by rw [fw,hK,hw]; exact a2R _
    have hb:k + 1 <= l.length:=a5Y hT
    unfold I8 M8
    rw [hu]
    simp (disch:=omega) only [kyv C hk,nxv C hk,fw,hK,hw,Bool.true_and,wq,SSx C]
    rcases match_at C (n:=n) (n':=n') hN (by omega) (by omega) hk H hT with ⟨x,q,p1,p2,p3,p4,p5,p6⟩ | ⟨x,q,pl,f,p1,p2,p3,p4,p5⟩
    · rw [p2]
      simp only [p1,I5]
      exact .inl ⟨x,q,rfl,rfl,p3,p4,p5,p6⟩
    · rw [p2]
      simp only [p1,O6]
      exact .inr ⟨x,q,pl,f,rfl,rfl,p3,p4,p5⟩
  have hw3:=hw
  clear hw
  by_cases hw:O8 l k = [100,101,102,101,114]
  · have hu:=word _ hK
    rw [cond_true,hw] at hu
    have hT:isT l 9 [100,101,102,101,114] k = true:=by rw [fw,hK,hw]; exact a2R _
    have hb:k + 1 <= l.length:=a5Y hT
    unfold I8 M8
    rw [hu]
    simp (disch:=omega) only [kyv C hk,nxv C hk,fw,hK,hw,Bool.true_and,wq,SSx C]
    obtain ⟨n1,rfl⟩:∃ q,n = q + 1:=⟨n - 1,by omega⟩
    have hone:∀ op:Int,(j5.fs (n1 + 1)).Y9 op l k size = a0p n1 (j5.fs n1) op l k size:=fun _=>rfl
    simp only [hone,a0p,a4a C hk,Option.bind_some,a0d (show k <= 1000000 by omega)]
    rcases H.block (k + 1) n1 n' (Nat.le_refl _) hb (by omega) (by omega) with ⟨x,q,p1,p2,p3,p4,p5,p6⟩ | ⟨x,q,pl,f,p1,p2,p3,p4,p5⟩
    · simp only [p1,p2,I5,Option.bind_some]
      exact .inl ⟨_,q,rfl,rfl,by omega,p4,by simp only [szs]; omega,.defer (C.pos k) p6⟩
    · simp only [p1,p2,O6,Option.bind_some]
      exact .inr ⟨_,q,pl,f,rfl,rfl,by omega,p4,p5⟩
  have hw4:=hw
  clear hw
  by_cases hw:O8 l k = [119,104,105,108,101]
  · have hu:=word _ hK
    rw [cond_true,hw] at hu
    have hT:isT l 9 [119,104,105,108,101] k = true:=by rw [fw,hK,hw]; exact a2R _
    have hb:k + 1 <= l.length:=a5Y hT
    unfold I8 M8
    rw [hu]
    simp (disch:=omega) only [kyv C hk,nxv C hk,fw,hK,hw,Bool.true_and,wq,SSx C]
    rcases H.expr (k + 1) n n' (Nat.le_refl _) hb (by omega) (by omega) with ⟨x,q,p1,p2,p3,p4,p5,p6⟩ | ⟨x,q,pl,f,p1,p2,p3,p4,p5⟩
    case inr =>
      simp (disch:=omega) only [p1,p2,SSx C]
      exact .inr ⟨_,q,pl,f,rfl,rfl,by omega,p4,p5⟩
    have hx:=x.a13
    simp (disch:=omega) only [p1,p2,SSx C]
    rcases H.block q n n' (by omega) p4 (by omega) (by omega) with ⟨y,q2,r1,r2,r3,r4,r5,r6⟩ | ⟨y,q2,pl,f,r1,r2,r3,r4,r5⟩
    · simp (disch:=omega) only [r1,r2,b58 x y (show 144 <= 1000 by omega),SSx C]
      exact .inl ⟨_,q2,rfl,rfl,by omega,r4,by simp only [szs]; omega,.whil (C.pos k) p6 r6⟩
    · simp (disch:=omega) only [r1,r2,SSx C]
      exact .inr ⟨_,q2,pl,f,rfl,rfl,by omega,r4,r5⟩
  have hw5:=hw
  clear hw
  by_cases hw:O8 l k = [114,101,116,117,114,110]
  · have hu:=word _ hK
    rw [cond_true,hw] at hu
    have hT:isT l 9 [114,101,116,117,114,110] k = true:=by rw [fw,hK,hw]; exact a2R _
    have hb:k + 1 <= l.length:=a5Y hT
    unfold I8 M8
    rw [hu]
    simp (disch:=omega) only [kyv C hk,nxv C hk,fw,hK,hw,Bool.true_and,wq,SSx C]
    rcases sgx C hb 59 [] with ⟨b,hs,e1,e2,e3,e4,e5⟩ | ⟨b,e1,e2,e3,e4,e5⟩
    · simp (disch:=omega) only [e1,e2,SSx C]
      exact .inl ⟨_,k + 1 + 1,rfl,rfl,by omega,hs,by simp only [szs]; omega,.ret0 (C.pos k)⟩
    simp (disch:=omega) only [e1,e2,SSx C]
    rcases H.expr (k + 1) n n' (Nat.le_refl _) hb (by omega) (by omega) with ⟨x,q,p1,p2,p3,p4,p5,p6⟩ | ⟨x,q,pl,f,p1,p2,p3,p4,p5⟩
    case inr =>
      simp (disch:=omega) only [p1,p2,SSx C]
      exact .inr ⟨_,q,pl,f,rfl,rfl,by omega,p4,p5⟩
    simp (disch:=omega) only [p1,p2,SSx C]
    rcases sgx C p4 59 [] with ⟨b,hs,e1,e2,e3,e4,e5⟩ | ⟨b,e1,e2,e3,e4,e5⟩
    · simp (disch:=omega) only [e2,e3,SSx C]
      exact .inl ⟨_,q + 1,rfl,rfl,by omega,hs,by simp only [szs]; omega,.ret1 (C.pos k) p6⟩
    · simp (disch:=omega) only [e2,e3,SSx C]
      exact .inr ⟨_,q,-1,_,rfl,rfl,by omega,p4,a03 l size q⟩
  have hw6:=hw
  clear hw
  by_cases hw:O8 l k = [116,104,114,111,119]
  · have hu:=word _ hK
    rw [cond_true,hw] at hu
    have hT:isT l 9 [116,104,114,111,119] k = true:=by rw [fw,hK,hw]; exact a2R _
    have hb:k + 1 <= l.length:=a5Y hT
    unfold I8 M8
    rw [hu]
    simp (disch:=omega) only [kyv C hk,nxv C hk,fw,hK,hw,Bool.true_and,wq,SSx C]
    rcases H.expr (k + 1) n n' (Nat.le_refl _) hb (by omega) (by omega) with ⟨x,q,p1,p2,p3,p4,p5,p6⟩ | ⟨x,q,pl,f,p1,p2,p3,p4,p5⟩
    case inr =>
      simp (disch:=omega) only [p1,p2,SSx C]
      exact .inr ⟨_,q,pl,f,rfl,rfl,by omega,p4,p5⟩
    simp (disch:=omega) only [p1,p2,SSx C]
    rcases sgx C p4 59 [] with ⟨b,hs,e1,e2,e3,e4,e5⟩ | ⟨b,e1,e2,e3,e4,e5⟩
    · simp (disch:=omega) only [e2,e3,SSx C]
      exact .inl ⟨_,q + 1,rfl,rfl,by omega,hs,by simp only [szs]; omega,.throws (C.pos k) p6⟩
    · simp (disch:=omega) only [e2,e3,SSx C]
      exact .inr ⟨_,q,-1,_,rfl,rfl,by omega,p4,a03 l size q⟩
  have hw7:=hw
  clear hw
  by_cases hw:O8 l k = [100,111]
  · have hu:=word _ hK
    rw [cond_true,hw] at hu
    have hT:isT l 9 [100,111] k = true:=by rw [fw,hK,hw]; exact a2R _
    have hb:k + 1 <= l.length:=a5Y hT
    unfold I8 M8
    rw [hu]
    simp (disch:=omega) only [kyv C hk,nxv C hk,fw,hK,hw,Bool.true_and,wq,SSx C]
    obtain ⟨n1,rfl⟩:∃ q,n = q + 1:=⟨n - 1,by omega⟩
    have hone:∀ op:Int,(j5.fs (n1 + 1)).Y9 op l k size = a0p n1 (j5.fs n1) op l k size:=fun _=>rfl
    simp only [hone,a0p,a4a C hk,Option.bind_some,a0d (show k <= 1000000 by omega)]
    rcases H.block (k + 1) n1 n' (Nat.le_refl _) hb (by omega) (by omega) with ⟨x,q,p1,p2,p3,p4,p5,p6⟩ | ⟨x,q,pl,f,p1,p2,p3,p4,p5⟩
    case inr =>
      simp (disch:=omega) only [p1,p2,SSx C]
      exact .inr ⟨_,q,pl,f,rfl,rfl,by omega,p4,p5⟩
    have hx:=x.a13
    simp (disch:=omega) only [p1,p2,SSx C]
    rcases kyx C p4 99 [97,116,99,104] with ⟨b,hs,e1,e2,e3,e4,e5⟩ | ⟨b,e1,e2,e3,e4,e5⟩
    case inr =>
      simp (disch:=omega) only [e2,e3,SSx C]
      exact .inr ⟨_,q,-1,_,rfl,rfl,by omega,p4,a03 l size q⟩
    simp (disch:=omega) only [e2,e3,SSx C]
    rcases nmx C hs with ⟨c,hc,e1,e2,e3⟩ | ⟨c,e1,e2,e3⟩
    case inr =>
      simp (disch:=omega) only [e1,e2,SSx C]
      exact .inr ⟨_,q + 1,-1,_,rfl,rfl,by omega,hs,a03 l size (q + 1)⟩
    simp (disch:=omega) only [e1,e2,SSx C]
    rcases H.block (q + 1 + 1) (n1 + 1) n' (by omega) hc (by omega) (by omega) with ⟨y,q2,r1,r2,r3,r4,r5,r6⟩ | ⟨y,q2,pl,f,r1,r2,r3,r4,r5⟩
    · simp (disch:=omega) only [r1,r2,b58 x y (show 144 <= 1000 by omega),SSx C]
      exact .inl ⟨_,q2,rfl,rfl,by omega,r4,by simp only [szs]; omega,.doc (C.pos k) p6 r6⟩
    · simp (disch:=omega) only [r1,r2,SSx C]
      exact .inr ⟨_,q2,pl,f,rfl,rfl,by omega,r4,r5⟩
  have hw8:=hw
  clear hw
  exact dflt (O8 l k) (by rw [fw,hK]; simp [eqS,hw0]) (by rw [fw,hK]; simp [eqS,hw1]) (by rw [fw,hK]; simp [eqS,hw2]) (by rw [fw,hK]; simp [eqS,hw3]) (by rw [fw,hK]; simp [eqS,hw4]) (by rw [fw,hK]; simp [eqS,hw5]) (by rw [fw,hK]; simp [eqS,hw6]) (by rw [fw,hK]; simp [eqS,hw7]) (by rw [fw,hK]; simp [eqS,hw8]) (by simp [eqS,hw0]) (by simp [eqS,hw1]) (by simp [eqS,hw2]) (by simp [eqS,hw3]) (by simp [eqS,hw4]) (by simp [eqS,hw5]) (by simp [eqS,hw6]) (by simp [eqS,hw7]) (by simp [eqS,hw8]) (word _ hK)
theorem b5M {N M n n' k0:Nat} (hN:24000 <= N) (hn:M <= n) (hn':M <= n') (hM:N <= M) (Q:∀ k n n',k0 <= k -> k <= l.length -> M <= n -> M <= n' -> a3l l size k Nod.sz (G 1) ((j5.fs n).O0 l k size) ((o5.fs n').a0n l size k (-1))):∀ (m m' k:Nat) (xs:List Nod),k0 <= k -> k <= l.length -> l.length - k < m -> l.length - k < m' -> szN xs + 4 * k0 <= 4 * k -> (∀ x ∈ xs,G 1 x) ->
  (∃ (q:Nat) (ys:List Nod),O7 n (j5.fs n) size l m xs k = some (.brk (ys,(q:Int))) /\ a1a n' (o5.fs n') size l m' xs k (-1) = some (.brk (ys,(q:Int),-1)) /\ k <= q /\ q <= l.length /\ szN ys + 4 * k0 + 4 <= 4 * q /\ ∀ x ∈ ys,G 1 x) ∨
  (∃ (q:Nat) (y:List Nod) (pl:Int) (f:o6),O7 n (j5.fs n) size l m xs k = some (.out (.pan (f,(q:Int)))) /\ a1a n' (o5.fs n') size l m' xs k (-1) = some (.out (y,false,(q:Int),pl)) /\ k <= q /\ q <= l.length /\ a4w l size q pl f)
 | 0,m',k,xs,h1,h2,h3,h4,h5,h6=>by omega
 | m + 1,0,k,xs,h1,h2,h3,h4,h5,h6=>by omega
 | m + 1,m' + 1,k,xs,h1,h2,h3,h4,h5,h6=>by
  have hl:=C.hl
  have hlen:=a0e xs
  rw [O7.eq_2,a1a.eq_2]
  rcases sgx C h2 125 [] with ⟨b,hb,e1,e2,e3,e4,e5⟩ | ⟨b,e1,e2,e3,e4,e5⟩
  ·rw [e1,e2]
   exact .inl ⟨k + 1,xs,rfl,rfl,by omega,hb,by omega,h6⟩
  ·rw [e1,e2]
   simp only [Option.bind_some,Bool.not_false,cond_true]
   rcases Q k n n' h1 h2 hn hn' with ⟨x,q,p1,p2,p3,p4,p5,p6⟩ | ⟨x,q,pl,f,p1,p2,p3,p4,p5⟩
   ·have a1:app 144 xs [x] = some (xs ++ [x]):=a1L (by omega) (by simp) (by omega)
    have hx:=x.a13
    simp only [p1,p2,a1,I5,Option.bind_some,Bool.not_true,cond_false]
    rcases b5M hN hn hn' hM Q m m' q (xs ++ [x]) (by omega) p4 (by omega) (by omega) (by simp only [szs]; omega) (a5v h6 (a4x p6)) with ⟨q',ys,y1,y2,y3,y4,y5,y6⟩ | ⟨q',y,pl,f,y1,y2,y3,y4,y5⟩
    ·exact .inl ⟨q',ys,y1,y2,by omega,y4,y5,y6⟩
    ·exact .inr ⟨q',y,pl,f,y1,y2,by omega,y4,y5⟩
   ·simp only [p1,p2,O6,Option.bind_some,Bool.not_false,cond_true]
    exact .inr ⟨q,_,pl,f,rfl,rfl,by omega,p4,p5⟩
theorem stmts_at {N M n n' k:Nat} (hN:24000 <= N) (hn:M + 1 <= n) (hn':M + 1 <= n') (hM:N <= M) (hk:k <= l.length) (Q:∀ q n n',k <= q -> q <= l.length -> M <= n -> M <= n' -> a3l l size q Nod.sz (G 1) ((j5.fs n).O0 l q size) ((o5.fs n').a0n l size q (-1))) :
  a3l l size k (fun x=>szN x + 4) (fun x=>∀ y ∈ x,G 1 y) ((j5.fs n).N7 l k size) ((o5.fs n').a06 l size k (-1)):=by
 have hl:=C.hl
 obtain ⟨n,rfl⟩:∃ q,n = q + 1:=⟨n - 1,by omega⟩
 obtain ⟨n',rfl⟩:∃ q,n' = q + 1:=⟨n' - 1,by omega⟩
 show a3l l size k _ _ (X7 n (j5.fs n) l k size) (a2L n' (o5.fs n') l size k (-1))
 unfold X7 a2L
 rcases b5M C (n:=n) (n':=n') (k0:=k) hN (by omega) (by omega) hM Q n n' k [] (Nat.le_refl _) hk (by omega) (by omega) (by simp only [szs]; omega) all_nil with ⟨q',ys,y1,y2,y3,y4,y5,y6⟩ | ⟨q',y,pl,f,y1,y2,y3,y4,y5⟩
 ·rw [y1,y2]
  exact .inl ⟨ys,q',rfl,rfl,y3,y4,(by show szN ys + 4 + 4 * k <= 4 * q'; omega),y6⟩
 ·rw [y1,y2]
  exact .inr ⟨_,q',pl,f,rfl,rfl,y3,y4,y5⟩
theorem hyp_step {N k:Nat} (hN:24000 <= N) (H:Hyp l size (k + 1) N):Hyp l size k (N + 20):=by
 have U:∀ n n',k <= l.length -> N + 4 <= n -> N + 4 <= n' -> a3l l size k Nod.sz (G 0) ((j5.fs n).I9 l k size) ((o5.fs n').X5 l size k (-1)):=fun n n' hk h1 h2=>unary_at C hN h1 h2 hk H
 have L:∀ j n n',k <= l.length -> j <= 5 -> N + 5 <= n -> N + 10 <= n' -> b75 l size j k n n':=fun j n n' hk hj h1 h2=>lev_at C hN (by omega) h2 hk H hj fun n' h3=>U n n' hk (by omega) h3
 have E:∀ n n',k <= l.length -> N + 15 <= n -> N + 15 <= n' -> a3l l size k Nod.sz (G 0) ((j5.fs n).A8 l k size) ((o5.fs n').M5 l size k (-1)):=fun n n' hk h1 h2=>expr_at C (N:=N + 4) (by omega) (by omega) fun n n' h3 h4=>L 0 n n' hk (by omega) (by omega) (by omega)
 have Q:∀ n n',k <= l.length -> N + 17 <= n -> N + 17 <= n' -> a3l l size k Nod.sz (G 1) ((j5.fs n).O0 l k size) ((o5.fs n').a0n l size k (-1)):=fun n n' hk h1 h2=>stmt_at C hN h1 h2 hk H fun n n'=>E n n' hk
 have cut:∀ {q:Nat},k <= q -> q = k ∨ k + 1 <= q:=fun h=>by omega
 refine ⟨fun q n n' h hk h1 h2=>?_,fun q n n' h hk h1 h2=>?_,fun j q n n' hj h hk h1 h2=>?_,fun m0 q n n' hm h hk h1 h2=>?_,fun q n n' h hk h1 h2=>?_,fun q n n' h hk h1 h2=>?_,fun q n n' h hk h1 h2=>?_,fun q n n' hi h hk h1 h2=>?_⟩
 ·rcases cut h with rfl | h
  ·exact E n n' hk (by omega) (by omega)
  ·exact H.expr q n n' h hk (by omega) (by omega)
 ·rcases cut h with rfl | h
  ·exact U n n' hk (by omega) (by omega)
  ·exact H.unary q n n' h hk (by omega) (by omega)
 ·rcases cut h with rfl | h
  ·exact L j n n' hk hj (by omega) (by omega)
  ·exact H.lev j q n n' hj h hk (by omega) (by omega)
 ·rcases cut h with rfl | h
  ·exact args_at C hN (by omega) (by omega) hk H hm
  ·exact H.args m0 q n n' hm h hk (by omega) (by omega)
 ·rcases cut h with rfl | h
  ·refine stmts_at C (M:=N + 17) hN (by omega) (by omega) (by omega) hk fun r n n' g gk g1 g2=>?_
   rcases cut g with rfl | g
   ·exact Q n n' gk g1 g2
   ·exact H.stmt r n n' g gk (by omega) (by omega)
  ·exact H.stmts q n n' h hk (by omega) (by omega)
 ·rcases cut h with rfl | h
  ·exact Q n n' hk (by omega) (by omega)
  ·exact H.stmt q n n' h hk (by omega) (by omega)
 ·rcases cut h with rfl | h
  ·exact block_at C hN (by omega) (by omega) hk H
  ·exact H.block q n n' h hk (by omega) (by omega)
 ·rcases cut h with rfl | h
  ·exact if_at C hN (by omega) (by omega) hk H hi
  ·exact H.iff q n n' hi h hk (by omega) (by omega)
theorem c0G:∀ (R k:Nat),l.length < k + R -> Hyp l size k (24000 + 20 * R)
 | 0,k,h=>⟨fun q n n' h1 hk=>by omega,fun q n n' h1 hk=>by omega,fun j q n n' hj h1 hk=>by omega,fun m0 q n n' hm h1 hk=>by omega,fun q n n' h1 hk=>by omega,fun q n n' h1 hk=>by omega,fun q n n' h1 hk=>by omega,fun q n n' hi h1 hk=>by omega⟩
 | R + 1,k,h=>by
  have:=hyp_step C (N:=24000 + 20 * R) (by omega) (c0G R (k + 1) (by omega))
  exact this
theorem hyp0:Hyp l size 0 90000:=by
 have hl:=C.hl
 have H:=c0G C 3001 0 (by omega)
 exact ⟨fun k n n' h hk h1 h2=>H.expr k n n' h hk (by omega) (by omega),fun k n n' h hk h1 h2=>H.unary k n n' h hk (by omega) (by omega),fun j k n n' hj h hk h1 h2=>H.lev j k n n' hj h hk (by omega) (by omega),fun m0 k n n' hm h hk h1 h2=>H.args m0 k n n' hm h hk (by omega) (by omega),fun k n n' h hk h1 h2=>H.stmts k n n' h hk (by omega) (by omega),fun k n n' h hk h1 h2=>H.stmt k n n' h hk (by omega) (by omega),fun k n n' h hk h1 h2=>H.block k n n' h hk (by omega) (by omega),fun k n n' hi h hk h1 h2=>H.iff k n n' hi h hk (by omega) (by omega)⟩
end
end Go.Proofs.YtlfomdllnidliaaGreatDoor
