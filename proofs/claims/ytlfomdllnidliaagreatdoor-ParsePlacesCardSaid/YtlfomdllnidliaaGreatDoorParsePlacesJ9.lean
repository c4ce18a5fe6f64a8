/- What the functions under ParsePlaces compute, step by step, as functions in Lean: texts that were built one by one, joined. -/
import Derived.Test.YtlfomdllnidliaaGreatDoorParsePlacesJ8
set_option maxRecDepth 100000
set_option maxHeartbeats 20000000
set_option linter.unusedSimpArgs false
set_option linter.unusedVariables false
set_option linter.unusedSectionVars false
namespace Go.Proofs.YtlfomdllnidliaaGreatDoor
open Go Go.Vm
def OkS {α:Type} (l:List Tok) (size:Int) (k:Nat) (sz:α -> Nat) (Q:α -> Prop) (p:Option (Rs (α × Int) (Int × Int))):Prop :=
 (∃ (x:α) (q:Nat),p = some (.ok (x,(q:Int))) /\ k <= q /\ q <= l.length /\ sz x + 4 * k <= 4 * q /\ Q x) ∨
 (∃ q:Nat,p = some (.pan (H6 l size q,(q:Int))) /\ k <= q /\ q <= l.length)
def FaultO (l:List Tok) (size:Int) (q:Nat) (f:o6):Prop:=f = ⟨⟨20,H6 l size q⟩⟩ ∨ ∃ a:Int,0 <= a /\ f = ⟨⟨22,a⟩⟩
def OkN {α:Type} (l:List Tok) (size:Int) (k:Nat) (sz:α -> Nat) (Q:α -> Prop) (p:Option (Rs (α × Int) (o6 × Int))):Prop :=
 (∃ (x:α) (q:Nat),p = some (.ok (x,(q:Int))) /\ k <= q /\ q <= l.length /\ sz x + 4 * k <= 4 * q /\ Q x) ∨
 (∃ (q:Nat) (f:o6),p = some (.pan (f,(q:Int))) /\ k <= q /\ q <= l.length /\ FaultO l size q f)
section
variable {l:List Tok} {size:Int} (C:Cx l size)
include C
theorem capx {k:Nat} (hk:k <= l.length):(k + 1 <= l.length /\ H7 l k size = some (.ok (O8 l k))) ∨ H7 l k size = some (.pan (H6 l size k)):=by
 rcases cap C.hl hk size (-1) with ⟨h,e,_,_⟩ | ⟨e,_⟩
 ·exact .inl ⟨h,e⟩
 ·exact .inr e
theorem typo {n k:Nat} (hk:k <= l.length) (hn:20000 <= n):(∃ (t:Typ) (q:Nat),D6 n l k size = some (.ok (t,(q:Int))) /\ k < q /\ q <= l.length /\ t.sz + k <= q) ∨ (∃ q:Nat,D6 n l k size = some (.pan (H6 l size q,(q:Int))) /\ k <= q /\ q <= l.length):=by
 rcases typ4 C (n:=n) (n':=20000) hk hn (Nat.le_refl _) with ⟨t,q,p1,_,p3,p4,p5⟩ | ⟨t,q,p1,_,p3,p4⟩
 ·exact .inl ⟨t,q,p1,p3,p4,p5⟩
 ·exact .inr ⟨q,p1,p3,p4⟩
theorem blocko {n k:Nat} (hk:k <= l.length) (hn:90000 <= n):OkN l size k Nod.sz (fun _=>True) (F8 n l k size):=by
 rcases (hyp0 C).block k n n (Nat.zero_le _) hk hn hn with ⟨x,q,p1,_,p3,p4,p5,_⟩ | ⟨x,q,pl,f,p1,_,p3,p4,p5⟩
 ·exact .inl ⟨x,q,p1,p3,p4,p5,trivial⟩
 ·refine .inr ⟨q,f,p1,p3,p4,?_⟩
  rcases p5 with ⟨_,h⟩ | ⟨h0,h⟩
  ·exact .inl h
  ·exact .inr ⟨pl,h0,h⟩
theorem resulto {n k:Nat} (hk:k <= l.length) (hn:20000 <= n):(∃ (t:Typ) (q:Nat),R7 n l k size = some (.ok (t,(q:Int))) /\ k <= q /\ q <= l.length /\ t.sz + k <= q + 1) ∨ (∃ q:Nat,R7 n l k size = some (.pan (H6 l size q,(q:Int))) /\ k <= q /\ q <= l.length):=by
 unfold R7
 rcases sgx C hk 45 [62] with ⟨b,hb,e1,e2,e3,e4,e5⟩ | ⟨b,e1,e2,e3,e4,e5⟩
 ·simp (disch:=omega) only [e1,SSx C]
  rcases typo C hb hn with ⟨t,q,p1,p3,p4,p5⟩ | ⟨q,p1,p3,p4⟩
  ·simp (disch:=omega) only [p1,SSx C]
   exact .inl ⟨t,q,rfl,by omega,p4,by omega⟩
  ·simp (disch:=omega) only [p1,SSx C]
   exact .inr ⟨q,rfl,by omega,p4⟩
 ·simp (disch:=omega) only [e1,SSx C]
  exact .inl ⟨_,k,rfl,Nat.le_refl _,hk,by simp only [szs]; omega⟩
theorem paramso {n k:Nat} (hk:k <= l.length) (hn:20000 <= n):OkS l size k szN (fun _=>True) (U4 n l k size):=by
 rcases b5m C (m0:=[]) (n:=n) (n':=20000) hk hn (Nat.le_refl _) (by simp) with ⟨q,ys,p1,_,_,p4,p5,p6,_⟩ | ⟨q,ys,p1,_,_,p4,p5⟩ | ⟨p1,_⟩
 ·exact .inl ⟨ys,q,p1,by omega,p5,by omega,trivial⟩
 ·exact .inr ⟨q,p1,p4,p5⟩
 ·exact .inr ⟨k,p1,Nat.le_refl _,hk⟩
theorem b3p {n k0:Nat}:∀ (m k:Nat) (xs:List Nod),k0 <= k -> k <= l.length -> l.length - k < m -> szN xs + 4 * k0 <= 4 * k -> OkS l size k0 szN (fun _=>True) (Y2 n size l m xs k)
 | 0,k,xs,h1,h2,h3,h4=>by omega
 | m + 1,k,xs,h1,h2,h3,h4=>by
  have hl:=C.hl
  have hlen:=a0e xs
  rw [Y2.eq_2]
  rcases capx C h2 with ⟨hc,e⟩ | e
  ·have a1:app 144 xs [(⟨9,O8 l k,0,zT,[],[],H6 l size k⟩:Nod)] = some (xs ++ [(⟨9,O8 l k,0,zT,[],[],H6 l size k⟩:Nod)]):=a1L (by omega) (by simp) (by omega)
   simp (disch:=omega) only [e,a1,SSx C]
   rcases sgx C hc 38 [] with ⟨b,hb,e1,e2,e3,e4,e5⟩ | ⟨b,e1,e2,e3,e4,e5⟩
   ·simp (disch:=omega) only [e1,SSx C]
    exact b3p m (k + 1 + 1) _ (by omega) hb (by omega) (by simp only [szs]; omega)
   ·simp (disch:=omega) only [e1,SSx C]
    exact .inl ⟨_,k + 1,rfl,by omega,hc,by simp only [szs]; omega,trivial⟩
  ·simp (disch:=omega) only [e,SSx C]
   exact .inr ⟨k,rfl,h1,h2⟩
theorem c0r {n k:Nat} (hk:k <= l.length) (hn:20000 <= n):OkS l size k szN (fun _=>True) (a0y n l k size):=by
 have hl:=C.hl
 unfold a0y
 rcases sgx C hk 58 [] with ⟨b,hb,e1,e2,e3,e4,e5⟩ | ⟨b,e1,e2,e3,e4,e5⟩
 ·simp (disch:=omega) only [e1,SSx C]
  exact b3p C n (k + 1) [] (by omega) hb (by omega) (by simp only [szs]; omega)
 ·simp (disch:=omega) only [e1,SSx C]
  exact .inl ⟨_,k,rfl,Nat.le_refl _,hk,by simp only [szs]; omega,trivial⟩
theorem b5W {n k0:Nat} (hn:20000 <= n):∀ (m k:Nat) (xs:List Nod),k0 <= k -> k <= l.length -> l.length - k < m -> szN xs + 4 * k0 <= 4 * k -> OkS l size k0 szN (fun _=>True) (X3 n size l m xs k)
 | 0,k,xs,h1,h2,h3,h4=>by omega
 | m + 1,k,xs,h1,h2,h3,h4=>by
  have hl:=C.hl
  have hlen:=a0e xs
  rw [X3.eq_2]
  rcases typo C h2 hn with ⟨t,q,p1,p3,p4,p5⟩ | ⟨q,p1,p3,p4⟩
  case inr =>
   simp (disch:=omega) only [p1,SSx C]
   exact .inr ⟨q,rfl,by omega,p4⟩
  have fin:∀ (r:Nat) (s:Str) (nn:Int) (ts:List Typ),q + 1 <= r -> r <= l.length -> szT ts + q + 1 <= r + 1 -> OkS l size k0 szN (fun _=>True) ((app 144 xs ([(⟨12,s,nn,t,ts,[],H6 l size k⟩:Nod)]:List Nod)).bind fun l20 =>
   (A7 [44] l (r:Int) size).bind fun (r21,at22) =>
   cond (!r21) (
   some (.ok (l20,at22))) (
   X3 n size l m l20 at22)):=by
   intro r s nn ts g1 g2 g3
   rw [a1L (by omega) (by simp) (by omega)]
   rcases sgx C g2 44 [] with ⟨b,hb,e1,e2,e3,e4,e5⟩ | ⟨b,e1,e2,e3,e4,e5⟩
   ·simp (disch:=omega) only [e1,SSx C]
    exact b5W hn m (r + 1) _ (by omega) hb (by omega) (by simp only [szs]; omega)
   ·simp (disch:=omega) only [e1,SSx C]
    exact .inl ⟨_,r,rfl,by omega,g2,by simp only [szs]; omega,trivial⟩
  rw [a4a C h2,Option.bind_some,p1,I5]
  simp only
  rcases sgx C p4 61 [61] with ⟨b,hb,e1,e2,e3,e4,e5⟩ | ⟨b,e1,e2,e3,e4,e5⟩
  ·rw [e1]
   simp only [Option.bind_some,cond_true]
   rcases typo C hb hn with ⟨t2,r,r1,r3,r4,r5⟩ | ⟨r,r1,r3,r4⟩
   ·simp only [r1,I5,Z9]
    exact fin r [] 2 [t2] (by omega) r4 (by simp only [szs,szT_cons]; omega)
   ·simp only [r1,O6,a0r]
    exact .inr ⟨r,rfl,by omega,r4⟩
  ·rw [e1]
   simp only [Option.bind_some,cond_false]
   rcases sgx C p4 58 [] with ⟨b,hb,e1,e2,e3,e4,e5⟩ | ⟨b,e1,e2,e3,e4,e5⟩
   ·rw [e3]
    simp only [I5]
    rcases capx C hb with ⟨hc,e⟩ | e
    ·rw [e]
     simp only [I5,Z9]
     rw [a0d (by omega)]
     exact fin (q + 1 + 1) (O8 l (q + 1)) 1 [] (by omega) hc (by simp only [szs]; omega)
    ·rw [e]
     simp only [O6,a0r]
     exact .inr ⟨q + 1,rfl,by omega,hb⟩
   ·rw [e3]
    simp only [O6,a0r]
    exact .inr ⟨q,rfl,by omega,p4⟩
theorem whereo {n k:Nat} (hk:k <= l.length) (hn:20000 <= n):OkS l size k szN (fun _=>True) (a0U n l k size):=by
 have hl:=C.hl
 unfold a0U
 rcases kyx C (k:=k) (by omega) 119 [104,101,114,101] with ⟨b,hb,e1,e2,e3,e4,e5⟩ | ⟨b,e1,e2,e3,e4,e5⟩
 ·simp (disch:=omega) only [e1,SSx C]
  exact b5W C hn n (k + 1) [] (by omega) hb (by omega) (by simp only [szs]; omega)
 ·simp (disch:=omega) only [e1,SSx C]
  exact .inl ⟨_,k,rfl,Nat.le_refl _,hk,by simp only [szs]; omega,trivial⟩
theorem b1o {n k0:Nat} (hn:20000 <= n):∀ (m k:Nat) (xs:List Nod),k0 <= k -> k <= l.length -> l.length - k < m -> szN xs + 4 * k0 <= 4 * k ->
  (∃ (ys:List Nod) (q:Nat),Q7 n size l m xs k = some (.brk (ys,(q:Int))) /\ k0 <= q /\ q <= l.length /\ szN ys + 4 * k0 <= 4 * q) ∨
  (∃ q:Nat,Q7 n size l m xs k = some (.out (.pan (H6 l size q,(q:Int)))) /\ k0 <= q /\ q <= l.length)
 | 0,k,xs,h1,h2,h3,h4=>by omega
 | m + 1,k,xs,h1,h2,h3,h4=>by
  have hl:=C.hl
  have hlen:=a0e xs
  rw [Q7.eq_2]
  rcases capx C h2 with ⟨hc,e⟩ | e
  ·simp (disch:=omega) only [e,SSx C]
   rcases c0r C (n:=n) hc hn with ⟨bs,q,p1,p3,p4,p5,_⟩ | ⟨q,p1,p3,p4⟩
   ·have a1:app 144 xs [(⟨8,O8 l k,0,zT,[],bs,H6 l size k⟩:Nod)] = some (xs ++ [(⟨8,O8 l k,0,zT,[],bs,H6 l size k⟩:Nod)]):=a1L (by omega) (by simp) (by omega)
    simp (disch:=omega) only [p1,a1,SSx C]
    rcases sgx C p4 44 [] with ⟨b,hb,e1,e2,e3,e4,e5⟩ | ⟨b,e1,e2,e3,e4,e5⟩
    ·simp (disch:=omega) only [e1,SSx C]
     exact b1o hn m (q + 1) _ (by omega) hb (by omega) (by simp only [szs]; omega)
    ·simp (disch:=omega) only [e1,SSx C]
     exact .inl ⟨_,q,rfl,by omega,p4,by simp only [szs]; omega⟩
   ·simp (disch:=omega) only [p1,SSx C]
    exact .inr ⟨q,rfl,by omega,p4⟩
  ·simp (disch:=omega) only [e,SSx C]
   exact .inr ⟨k,rfl,h1,h2⟩
theorem b21 {n k:Nat} (hk:k <= l.length) (hn:20000 <= n):OkS l size k szN (fun _=>True) (N9 n l k size):=by
 have hl:=C.hl
 unfold N9
 rcases sgx C hk 60 [] with ⟨b,hb,e1,e2,e3,e4,e5⟩ | ⟨b,e1,e2,e3,e4,e5⟩
 ·simp (disch:=omega) only [e1,SSx C]
  rcases b1o C (k0:=k) hn n (k + 1) [] (by omega) hb (by omega) (by simp only [szs]; omega) with ⟨ys,r,y1,y2,y3,y4⟩ | ⟨r,y1,y2,y3⟩
  ·simp (disch:=omega) only [y1,SSx C]
   rcases sgx C y3 62 [] with ⟨b,hb,e1,e2,e3,e4,e5⟩ | ⟨b,e1,e2,e3,e4,e5⟩
   ·simp (disch:=omega) only [e3,SSx C]
    exact .inl ⟨_,r + 1,rfl,by omega,hb,by omega,trivial⟩
   ·simp (disch:=omega) only [e3,SSx C]
    exact .inr ⟨r,rfl,by omega,y3⟩
  ·simp (disch:=omega) only [y1,SSx C]
   exact .inr ⟨r,rfl,by omega,y3⟩
 ·simp (disch:=omega) only [e1,SSx C]
  exact .inl ⟨_,k,rfl,Nat.le_refl _,hk,by simp only [szs]; omega,trivial⟩
theorem signo {n k:Nat} (hk:k <= l.length) (hn:20000 <= n) :
    (∃ (s:Str) (t:Typ) (ys:List Nod) (a:Int) (q:Nat),V3 n l k size = some (.ok (s,t,ys,a,(q:Int))) /\ k <= q /\ q <= l.length /\ t.sz + szN ys + 2 + 4 * k <= 4 * q) ∨
    (∃ q:Nat,V3 n l k size = some (.pan (H6 l size q,(q:Int))) /\ k <= q /\ q <= l.length):=by
  have hl:=C.hl
  unfold V3
  rcases kyx C (k:=k) (by omega) 102 [117,110,99] with ⟨b,hb,e1,e2,e3,e4,e5⟩ | ⟨b,e1,e2,e3,e4,e5⟩
  case inr =>
    simp (disch:=omega) only [e3,SSx C]
    exact .inr ⟨k,rfl,Nat.le_refl _,hk⟩
  simp (disch:=omega) only [e3,SSx C]
  rcases nmx C hb with ⟨c,hc,e1,e2,e3⟩ | ⟨c,e1,e2,e3⟩
  case inr =>
    simp (disch:=omega) only [e1,SSx C]
    exact .inr ⟨k + 1,rfl,by omega,hb⟩
  simp (disch:=omega) only [e1,SSx C]
  rcases b21 C (n:=n) hc hn with ⟨gs,q,p1,p3,p4,p5,_⟩ | ⟨q,p1,p3,p4⟩
  case inr =>
    simp (disch:=omega) only [p1,SSx C]
    exact .inr ⟨q,rfl,by omega,p4⟩
  have hgs:=a0e gs
  simp (disch:=omega) only [p1,SSx C]
  rcases paramso C (n:=n) p4 hn with ⟨ps,q2,r1,r3,r4,r5,_⟩ | ⟨q2,r1,r3,r4⟩
  case inr =>
    simp (disch:=omega) only [r1,SSx C]
    exact .inr ⟨q2,rfl,by omega,r4⟩
  have hps:=a0e ps
  have a1:app 144 gs ps = some (gs ++ ps):=a1L (by omega) (by omega) (by omega)
  rw [r1]
  simp only [I5,a1,Option.bind_some]
  rw [a4a C r4,Option.bind_some]
  have thr:(∃ (ys:List Nod) (q3:Nat),((F3 [116,104,114,111,119,115] l q2 size).bind fun (r13,at14) =>
      cond r13 (
      C9 (q9 [40] l at14 size) (fun at15 =>
      C9 (D6 n l at15 size) (fun (r16,at17) =>
      C9 (q9 [41] l at17 size) (fun at18 =>
      (app 144 (gs ++ ps) ([(⟨11,[],0,r16,[],[],H6 l size q2⟩:Nod)]:List Nod)).bind fun l19 =>
      some (.brk (at18,l19))) fun (at20,at21) =>
      some (.out (.pan (at20,at21)))) fun (at22,at23) =>
      some (.out (.pan (at22,at23)))) fun (at24,at25) =>
      some (.out (.pan (at24,at25)))) (
      some (.brk (at14,(gs ++ ps))))) = some (Lr.brk (α:=Int × List Nod) (ρ:=Rs (Str × Typ × List Nod × Int × Int) (Int × Int)) ((q3:Int),ys)) /\ q2 <= q3 /\ q3 <= l.length /\ szN ys + 4 * q2 <= szN gs + szN ps + 4 * q3) ∨
      (∃ q3:Nat,((F3 [116,104,114,111,119,115] l q2 size).bind fun (r13,at14) =>
      cond r13 (
      C9 (q9 [40] l at14 size) (fun at15 =>
      C9 (D6 n l at15 size) (fun (r16,at17) =>
      C9 (q9 [41] l at17 size) (fun at18 =>
      (app 144 (gs ++ ps) ([(⟨11,[],0,r16,[],[],H6 l size q2⟩:Nod)]:List Nod)).bind fun l19 =>
      some (.brk (at18,l19))) fun (at20,at21) =>
      some (.out (.pan (at20,at21)))) fun (at22,at23) =>
      some (.out (.pan (at22,at23)))) fun (at24,at25) =>
      some (.out (.pan (at24,at25)))) (
      some (.brk (at14,(gs ++ ps))))) = some (Lr.out (α:=Int × List Nod) (ρ:=Rs (Str × Typ × List Nod × Int × Int) (Int × Int)) (.pan (H6 l size q3,(q3:Int)))) /\ q2 <= q3 /\ q3 <= l.length):=by
    rcases kyx C (k:=q2) r4 116 [104,114,111,119,115] with ⟨b,hb,e1,e2,e3,e4,e5⟩ | ⟨b,e1,e2,e3,e4,e5⟩
    · rw [e1]
      simp only [Option.bind_some,cond_true]
      rcases sgx C hb 40 [] with ⟨b,hb,e1,e2,e3,e4,e5⟩ | ⟨b,e1,e2,e3,e4,e5⟩
      case inr =>
        rw [e3]
        exact .inr ⟨q2 + 1,rfl,by omega,hb⟩
      rw [e3]
      simp only [I5]
      rcases typo C hb hn with ⟨t,q3,s1,s3,s4,s5⟩ | ⟨q3,s1,s3,s4⟩
      case inr =>
        rw [s1]
        exact .inr ⟨q3,rfl,by omega,s4⟩
      rw [s1]
      simp only [I5]
      rcases sgx C s4 41 [] with ⟨b,hb,e1,e2,e3,e4,e5⟩ | ⟨b,e1,e2,e3,e4,e5⟩
      case inr =>
        rw [e3]
        exact .inr ⟨q3,rfl,by omega,s4⟩
      rw [e3]
      simp only [I5]
      rw [a1L (by simp only [List.length_append]; omega) (by simp) (by omega)]
      exact .inl ⟨_,q3 + 1,rfl,by omega,hb,by simp only [szs]; omega⟩
    · rw [e1]
      simp only [Option.bind_some,cond_false]
      exact .inl ⟨gs ++ ps,q2,rfl,Nat.le_refl _,r4,by simp only [szs]; omega⟩
  rcases thr with ⟨ys,q3,g1,g2,g3,g4⟩ | ⟨q3,g1,g2,g3⟩
  case inr =>
    rw [g1]
    exact .inr ⟨q3,rfl,by omega,g3⟩
  have hys:=a0e ys
  rw [g1]
  simp only [Z9]
  rcases resulto C (n:=n) g3 hn with ⟨t,q4,s1,s3,s4,s5⟩ | ⟨q4,s1,s3,s4⟩
  case inr =>
    rw [s1]
    exact .inr ⟨q4,rfl,by omega,s4⟩
  rw [s1]
  simp only [I5]
  rcases whereo C (n:=n) s4 hn with ⟨ws,q5,u1,u3,u4,u5,_⟩ | ⟨q5,u1,u3,u4⟩
  case inr =>
    rw [u1]
    exact .inr ⟨q5,rfl,by omega,u4⟩
  have hws:=a0e ws
  rw [u1]
  simp only [I5]
  rw [a1L (by omega) (by omega) (by omega)]
  exact .inl ⟨_,t,_,_,q5,rfl,by omega,u4,by simp only [szs]; omega⟩
theorem funco {n k:Nat} (hk:k <= l.length) (hn:90000 <= n):OkN l size k Nod.sz (fun x=>x.op = 7 /\ x.n = 1) (Z8 n l k size):=by
 have hl:=C.hl
 unfold Z8
 rcases signo C (n:=n) hk (by omega) with ⟨s,t,ys,a,q,p1,p3,p4,p5⟩ | ⟨q,p1,p3,p4⟩
 ·have hys:=a0e ys
  rw [p1]
  simp only [I5]
  rcases blocko C (n:=n) p4 hn with ⟨x,q2,r1,r3,r4,r5,_⟩ | ⟨q2,f,r1,r3,r4,r5⟩
  ·rw [r1]
   simp only [I5]
   rw [a1L (by omega) (by simp) (by omega)]
   exact .inl ⟨_,q2,rfl,by omega,r4,by simp only [szs]; omega,rfl,rfl⟩
  ·rw [r1]
   exact .inr ⟨q2,f,rfl,by omega,r4,r5⟩
 ·rw [p1]
  exact .inr ⟨q,_,rfl,p3,p4,.inl rfl⟩
theorem b3w {n k0:Nat} (hn:20000 <= n):∀ (m k:Nat) (xs:List Nod),k0 <= k -> k <= l.length -> l.length - k < m -> szN xs + 4 * k0 <= 4 * k ->
  (∃ (ys:List Nod) (q:Nat),U8 n size l m xs k = some (.brk (ys,(q:Int))) /\ k0 <= q /\ q <= l.length /\ szN ys + 4 * k0 <= 4 * q) ∨
  (∃ q:Nat,U8 n size l m xs k = some (.out (.pan (⟨⟨20,H6 l size q⟩⟩,(q:Int)))) /\ k0 <= q /\ q <= l.length)
 | 0,k,xs,h1,h2,h3,h4=>by omega
 | m + 1,k,xs,h1,h2,h3,h4=>by
  have hl:=C.hl
  have hlen:=a0e xs
  have mode:(∃ nn:Int,k + 1 <= l.length /\ ((u7 0 9 [108,101,116] l k size).bind fun r5 =>
   cond r5 (
   some true) (
   (u7 0 9 [118,97,114] l k size).bind fun r6 =>
   some r6)) = some true /\ ((F3 [118,97,114] l k size).bind fun (r8,at9) =>
   cond r8 (
   some (at9,(1:Int))) (
   some ((w64 (at9 + 1)),0))) = some (((k + 1:Nat):Int),nn)) ∨ ((u7 0 9 [108,101,116] l k size).bind fun r5 =>
   cond r5 (
   some true) (
   (u7 0 9 [118,97,114] l k size).bind fun r6 =>
   some r6)) = some false:=by
   rcases kyx C (k:=k) h2 108 [101,116] with ⟨b,hb,e1,e2,e3,e4,e5⟩ | ⟨b,e1,e2,e3,e4,e5⟩
   ·have b2:isT l 9 [118,97,114] k = false:=b7x C b (by decide)
    obtain ⟨f1,f2,f3,f4,f5⟩:=kyn C h2 b2
    rw [e4,f1]
    simp only [Option.bind_some,cond_true,cond_false]
    rw [a0d (by omega)]
    exact .inl ⟨0,hb,by first | rfl | trivial,by first | rfl | trivial⟩
   ·rw [e4]
    simp only [Option.bind_some,cond_false]
    rcases kyx C (k:=k) h2 118 [97,114] with ⟨b,hb,e1,e2,e3,e4,e5⟩ | ⟨b,e1,e2,e3,e4,e5⟩
    ·rw [e4,e1]
     exact .inl ⟨1,hb,by first | rfl | trivial,by first | rfl | trivial⟩
    ·rw [e4]; exact .inr rfl
  rw [U8.eq_2]
  rcases mode with ⟨nn,hb,m1,m2⟩ | m1
  ·rw [m1,Option.bind_some,cond_true,a4a C h2,Option.bind_some,m2,Option.bind_some]
   simp only
   rcases nmx C hb with ⟨c,hc,e1,e2,e3⟩ | ⟨c,e1,e2,e3⟩
   case inr =>
    rw [e1]
    exact .inr ⟨k + 1,rfl,by omega,hb⟩
   rw [e1,I5,a0d (by omega)]
   rcases sgx C hc 58 [] with ⟨b,hb,e1,e2,e3,e4,e5⟩ | ⟨b,e1,e2,e3,e4,e5⟩
   case inr =>
    rw [e3]
    exact .inr ⟨k + 1 + 1,rfl,by omega,hc⟩
   rw [e3,I5]
   rcases typo C hb hn with ⟨t,q,p1,p3,p4,p5⟩ | ⟨q,p1,p3,p4⟩
   case inr =>
    rw [p1]
    exact .inr ⟨q,rfl,by omega,p4⟩
   rw [p1,I5]
   simp only
   rcases sgx C p4 59 [] with ⟨b,hb,e1,e2,e3,e4,e5⟩ | ⟨b,e1,e2,e3,e4,e5⟩
   case inr =>
    rw [e3]
    exact .inr ⟨q,rfl,by omega,p4⟩
   rw [e3,I5,a1L (by omega) (by simp) (by omega),Option.bind_some]
   exact b3w hn m (q + 1) _ (by omega) hb (by omega) (by simp only [szs]; omega)
  ·rw [m1,Option.bind_some,cond_false]
   exact .inl ⟨xs,k,rfl,h1,h2,h4⟩
theorem fieldso {n k:Nat} (hk:k <= l.length) (hn:90000 <= n):OkN l size k szN (fun _=>True) (X9 n l k size):=by
 have hl:=C.hl
 unfold X9
 rcases sgx C hk 123 [] with ⟨b,hb,e1,e2,e3,e4,e5⟩ | ⟨b,e1,e2,e3,e4,e5⟩
 case inr =>
  rw [e3]
  exact .inr ⟨k,_,rfl,Nat.le_refl _,hk,.inl rfl⟩
 rw [e3,I5]
 rcases b3w C (n:=n) (k0:=k) (by omega) n (k + 1) [] (by omega) hb (by omega) (by simp only [szs]; omega) with ⟨ys,r,y1,y2,y3,y4⟩ | ⟨r,y1,y2,y3⟩
 case inr =>
  rw [y1]
  exact .inr ⟨r,_,rfl,by omega,y3,.inl rfl⟩
 have hys:=a0e ys
 rw [y1,Z9]
 simp only
 rw [a4a C y3,Option.bind_some]
 rcases kyx C y3 100 [101,105,110,105,116] with ⟨b,hb,e1,e2,e3,e4,e5⟩ | ⟨b,e1,e2,e3,e4,e5⟩
 ·rw [e1]
  simp only [Option.bind_some,cond_true]
  rcases blocko C (n:=n) hb hn with ⟨x,q2,r1,r3,r4,r5,_⟩ | ⟨q2,f,r1,r3,r4,r5⟩
  case inr =>
   rw [r1]
   exact .inr ⟨q2,f,rfl,by omega,r4,r5⟩
  rw [r1,I5]
  simp only
  rw [a1L (by omega) (by simp) (by omega),Option.bind_some,Z9]
  simp only
  rcases sgx C r4 125 [] with ⟨b,hd,e1,e2,e3,e4,e5⟩ | ⟨b,e1,e2,e3,e4,e5⟩
  ·rw [e3]
   exact .inl ⟨_,q2 + 1,rfl,by omega,hd,by simp only [szs]; omega,trivial⟩
  ·rw [e3]
   exact .inr ⟨q2,_,rfl,by omega,r4,.inl rfl⟩
 ·rw [e1]
  simp only [Option.bind_some,cond_false,Z9]
  rcases sgx C y3 125 [] with ⟨b,hd,e1,e2,e3,e4,e5⟩ | ⟨b,e1,e2,e3,e4,e5⟩
  ·rw [e3]
   exact .inl ⟨_,r + 1,rfl,by omega,hd,by omega,trivial⟩
  ·rw [e3]
   exact .inr ⟨r,_,rfl,by omega,y3,.inl rfl⟩
theorem b4H {n k0:Nat} {xs:List Nod} {nn:Int} (hn:20000 <= n):∀ (m k:Nat) (ts:List Typ),k0 <= k -> k <= l.length -> l.length - k < m -> szT ts + k0 <= k ->
  (∃ (us:List Typ) (q:Nat),U5 n size l m xs k nn ts = some (.brk (xs,(q:Int),nn,us)) /\ k0 <= q /\ q <= l.length /\ szT us + k0 <= q) ∨
  (∃ q:Nat,U5 n size l m xs k nn ts = some (.out (.pan (H6 l size q,(q:Int)))) /\ k0 <= q /\ q <= l.length)
 | 0,k,ts,h1,h2,h3,h4=>by omega
 | m + 1,k,ts,h1,h2,h3,h4=>by
  have hl:=C.hl
  have hlen:=b4s ts
  rw [U5.eq_2]
  rcases sgx C h2 44 [] with ⟨b,hb,e1,e2,e3,e4,e5⟩ | ⟨b,e1,e2,e3,e4,e5⟩
  ·rw [e1]
   simp only [Option.bind_some,cond_true]
   rcases typo C hb hn with ⟨t,q,p1,p3,p4,p5⟩ | ⟨q,p1,p3,p4⟩
   ·rw [p1,I5]
    simp only
    rw [a1L (by omega) (by simp) (by omega),Option.bind_some]
    exact b4H hn m q (ts ++ [t]) (by omega) p4 (by omega) (by rw [a9V,a9W]; omega)
   ·rw [p1]
    exact .inr ⟨q,rfl,by omega,p4⟩
  ·rw [e1]
   exact .inl ⟨ts,k,rfl,h1,h2,h4⟩
theorem b4G {n k0:Nat} (hn:20000 <= n):∀ (m k:Nat) (xs:List Nod),k0 <= k -> k <= l.length -> l.length - k < m -> szN xs + 4 * k0 <= 4 * k ->
  (∃ (ys:List Nod) (q:Nat),Q5 n size l m xs k = some (.brk (ys,(q:Int))) /\ k0 <= q /\ q <= l.length /\ szN ys + 4 * k0 <= 4 * q) ∨
  (∃ q:Nat,Q5 n size l m xs k = some (.out (.pan (H6 l size q,(q:Int)))) /\ k0 <= q /\ q <= l.length)
 | 0,k,xs,h1,h2,h3,h4=>by omega
 | m + 1,k,xs,h1,h2,h3,h4=>by
  have hl:=C.hl
  have hlen:=a0e xs
  rw [Q5.eq_2]
  rcases sgx C h2 125 [] with ⟨b,hb,e1,e2,e3,e4,e5⟩ | ⟨b,e1,e2,e3,e4,e5⟩
  ·rw [e1]
   exact .inl ⟨xs,k + 1,rfl,by omega,hb,by omega⟩
  rw [e1]
  simp only [Option.bind_some,Bool.not_false,cond_true]
  rw [a4a C h2,Option.bind_some]
  obtain ⟨j,nn,m1,j1,j2⟩:∃ (j:Nat) (nn:Int),((F3 [105,110,100,105,114,101,99,116] l k size).bind fun (r8,at9) =>
   cond r8 (
   some (at9,(1:Int))) (
   some (at9,0))) = some ((j:Int),nn) /\ k <= j /\ j <= l.length:=by
   rcases kyx C (k:=k) h2 105 [110,100,105,114,101,99,116] with ⟨b,hb,e1,e2,e3,e4,e5⟩ | ⟨b,e1,e2,e3,e4,e5⟩
   ·rw [e1]; exact ⟨k + 1,1,rfl,by omega,hb⟩
   ·rw [e1]; exact ⟨k,0,rfl,Nat.le_refl _,h2⟩
  rw [m1,Option.bind_some]
  simp only
  rcases kyx C j2 99 [97,115,101] with ⟨b,hb,e1,e2,e3,e4,e5⟩ | ⟨b,e1,e2,e3,e4,e5⟩
  case inr =>
   rw [e3]
   exact .inr ⟨j,rfl,by omega,j2⟩
  rw [e3,I5]
  rcases nmx C hb with ⟨c,hc,e1,e2,e3⟩ | ⟨c,e1,e2,e3⟩
  case inr =>
   rw [e1]
   exact .inr ⟨j + 1,rfl,by omega,hb⟩
  rw [e1,I5,a0d (by omega)]
  have fin:∀ (q:Nat) (us:List Typ),j + 1 + 1 <= q -> q <= l.length -> szT us + (j + 1 + 1) <= q ->
   (∃ (ys:List Nod) (r:Nat),(C9 (q9 [59] l (q:Int) size) (fun at29 =>
   (app 144 xs ([(⟨14,O8 l (j + 1),nn,(⟨0,[],0,[]⟩:Typ),us,[],H6 l size k⟩:Nod)]:List Nod)).bind fun l30 =>
   Q5 n size l m l30 at29) fun (at31,at32) =>
   some (.out (.pan (at31,at32)))) = some (.brk (ys,(r:Int))) /\ k0 <= r /\ r <= l.length /\ szN ys + 4 * k0 <= 4 * r) ∨
   (∃ r:Nat,(C9 (q9 [59] l (q:Int) size) (fun at29 =>
   (app 144 xs ([(⟨14,O8 l (j + 1),nn,(⟨0,[],0,[]⟩:Typ),us,[],H6 l size k⟩:Nod)]:List Nod)).bind fun l30 =>
   Q5 n size l m l30 at29) fun (at31,at32) =>
   some (.out (.pan (at31,at32)))) = some (.out (.pan (H6 l size r,(r:Int)))) /\ k0 <= r /\ r <= l.length):=by
   intro q us g1 g2 g3
   rcases sgx C g2 59 [] with ⟨b,hb,e1,e2,e3,e4,e5⟩ | ⟨b,e1,e2,e3,e4,e5⟩
   ·rw [e3,I5,a1L (by omega) (by simp) (by omega),Option.bind_some]
    exact b4G hn m (q + 1) _ (by omega) hb (by omega) (by simp only [szs]; omega)
   ·rw [e3]
    exact .inr ⟨q,rfl,by omega,g2⟩
  rcases sgx C hc 40 [] with ⟨b,hd,e1,e2,e3,e4,e5⟩ | ⟨b,e1,e2,e3,e4,e5⟩
  ·rw [e1]
   simp only [Option.bind_some,cond_true]
   rcases typo C hd hn with ⟨t,q,p1,p3,p4,p5⟩ | ⟨q,p1,p3,p4⟩
   case inr =>
    rw [p1]
    exact .inr ⟨q,rfl,by omega,p4⟩
   rw [p1,I5]
   simp only
   rw [a1L (by simp) (by simp) (by omega),Option.bind_some,List.nil_append]
   rcases b4H C (n:=n) (k0:=j + 1 + 1) (xs:=xs) (nn:=nn) hn n q [t] (by omega) p4 (by omega) (by rw [a9W]; omega) with ⟨us,r,y1,y2,y3,y4⟩ | ⟨r,y1,y2,y3⟩
   case inr =>
    rw [y1]
    exact .inr ⟨r,rfl,by omega,y3⟩
   rw [y1,a1Q]
   simp only
   rcases sgx C y3 41 [] with ⟨b,hd,e1,e2,e3,e4,e5⟩ | ⟨b,e1,e2,e3,e4,e5⟩
   ·rw [e3,I5,a1Q]
    exact fin (r + 1) us (by omega) hd (by omega)
   ·rw [e3]
    exact .inr ⟨r,rfl,by omega,y3⟩
  ·rw [e1]
   simp only [Option.bind_some,cond_false,a1Q]
   exact fin (j + 1 + 1) [] (by omega) hc (by simp only [szs]; omega)
theorem caseso {n k:Nat} (hk:k <= l.length) (hn:20000 <= n):OkS l size k szN (fun _=>True) (a0Q n l k size):=by
 have hl:=C.hl
 unfold a0Q
 rcases sgx C hk 123 [] with ⟨b,hb,e1,e2,e3,e4,e5⟩ | ⟨b,e1,e2,e3,e4,e5⟩
 case inr =>
  rw [e3]
  exact .inr ⟨k,rfl,Nat.le_refl _,hk⟩
 rw [e3,I5]
 rcases b4G C (n:=n) (k0:=k) hn n (k + 1) [] (by omega) hb (by omega) (by simp only [szs]; omega) with ⟨ys,r,y1,y2,y3,y4⟩ | ⟨r,y1,y2,y3⟩
 ·rw [y1]
  exact .inl ⟨ys,r,rfl,by omega,y3,y4,trivial⟩
 ·rw [y1]
  exact .inr ⟨r,rfl,by omega,y3⟩
theorem b5w {n k0:Nat} (hn:20000 <= n):∀ (m k:Nat) (xs:List Nod),k0 <= k -> k <= l.length -> l.length - k < m -> szN xs + 4 * k0 <= 4 * k ->
  (∃ (ys:List Nod) (q:Nat),Q8 n size l m k xs = some (.brk ((q:Int),ys)) /\ k0 <= q /\ q <= l.length /\ szN ys + 4 * k0 <= 4 * q) ∨
  (∃ q:Nat,Q8 n size l m k xs = some (.out (.pan (H6 l size q,(q:Int)))) /\ k0 <= q /\ q <= l.length)
 | 0,k,xs,h1,h2,h3,h4=>by omega
 | m + 1,k,xs,h1,h2,h3,h4=>by
  have hl:=C.hl
  have hlen:=a0e xs
  rw [Q8.eq_2]
  rcases kyx C (k:=k) h2 116 [121,112,101] with ⟨b,hb,e1,e2,e3,e4,e5⟩ | ⟨b,e1,e2,e3,e4,e5⟩
  case inr =>
   rw [e4]
   exact .inl ⟨xs,k,rfl,h1,h2,h4⟩
  simp (disch:=omega) only [e4,SSx C]
  rcases capx C hb with ⟨hc,e⟩ | e
  case inr =>
   simp (disch:=omega) only [e,SSx C]
   exact .inr ⟨k + 1,rfl,by omega,hb⟩
  simp (disch:=omega) only [e,SSx C]
  rcases c0r C (n:=n) hc hn with ⟨bs,q,p1,p3,p4,p5,_⟩ | ⟨q,p1,p3,p4⟩
  case inr =>
   simp (disch:=omega) only [p1,SSx C]
   exact .inr ⟨q,rfl,by omega,p4⟩
  simp (disch:=omega) only [p1,SSx C]
  rcases sgx C p4 59 [] with ⟨b,hd,e1,e2,e3,e4,e5⟩ | ⟨b,e1,e2,e3,e4,e5⟩
  case inr =>
   simp (disch:=omega) only [e3,SSx C]
   exact .inr ⟨q,rfl,by omega,p4⟩
  have a1:app 144 xs [(⟨16,O8 l (k + 1),0,zT,[],bs,H6 l size k⟩:Nod)] = some (xs ++ [(⟨16,O8 l (k + 1),0,zT,[],bs,H6 l size k⟩:Nod)]):=a1L (by omega) (by simp) (by omega)
  simp (disch:=omega) only [e3,a1,SSx C]
  exact b5w hn m (q + 1) _ (by omega) hd (by omega) (by simp only [szs]; omega)
theorem b3I {n k0:Nat} (hn:20000 <= n):∀ (m k:Nat) (xs:List Nod),k0 <= k -> k <= l.length -> l.length - k < m -> szN xs + 4 * k0 <= 4 * k ->
  (∃ (ys:List Nod) (q:Nat),P8 n size l m k xs = some (.brk ((q:Int),ys)) /\ k0 <= q /\ q <= l.length /\ szN ys + 4 * k0 <= 4 * q) ∨
  (∃ q:Nat,P8 n size l m k xs = some (.out (.pan (H6 l size q,(q:Int)))) /\ k0 <= q /\ q <= l.length)
 | 0,k,xs,h1,h2,h3,h4=>by omega
 | m + 1,k,xs,h1,h2,h3,h4=>by
  have hl:=C.hl
  have hlen:=a0e xs
  rw [P8.eq_2]
  rcases kyx C (k:=k) (by omega) 102 [117,110,99] with ⟨b,hb,e1,e2,e3,e4,e5⟩ | ⟨b,e1,e2,e3,e4,e5⟩
  case inr =>
   rw [e4]
   exact .inl ⟨xs,k,rfl,h1,h2,h4⟩
  rw [e4,Option.bind_some,cond_true]
  rcases signo C (n:=n) h2 hn with ⟨s,t,zs,a,q,p1,p3,p4,p5⟩ | ⟨q,p1,p3,p4⟩
  case inr =>
   rw [p1]
   exact .inr ⟨q,rfl,by omega,p4⟩
  rw [p1,I5]
  simp only
  rcases sgx C p4 59 [] with ⟨b,hd,e1,e2,e3,e4,e5⟩ | ⟨b,e1,e2,e3,e4,e5⟩
  case inr =>
   rw [e3]
   exact .inr ⟨q,rfl,by omega,p4⟩
  rw [e3,I5,a1L (by omega) (by simp) (by omega),Option.bind_some]
  exact b3I hn m (q + 1) _ (by omega) hd (by omega) (by simp only [szs]; omega)
theorem proto {n k:Nat} (hk:k <= l.length) (hn:20000 <= n):OkS l size k Nod.sz (fun x=>x.op = 5) (a0w n l k size):=by
 have hl:=C.hl
 unfold a0w
 rcases kyx C (k:=k) (by omega) 112 [114,111,116,111,99,111,108] with ⟨b,hb,e1,e2,e3,e4,e5⟩ | ⟨b,e1,e2,e3,e4,e5⟩
 case inr =>
  simp (disch:=omega) only [e3,SSx C]
  exact .inr ⟨k,rfl,Nat.le_refl _,hk⟩
 simp (disch:=omega) only [e3,SSx C]
 rcases capx C hb with ⟨hc,e⟩ | e
 case inr =>
  simp (disch:=omega) only [e,SSx C]
  exact .inr ⟨k + 1,rfl,by omega,hb⟩
 simp (disch:=omega) only [e,SSx C]
 rcases sgx C hc 123 [] with ⟨b,hd,e1,e2,e3,e4,e5⟩ | ⟨b,e1,e2,e3,e4,e5⟩
 case inr =>
  simp (disch:=omega) only [e3,SSx C]
  exact .inr ⟨k + 1 + 1,rfl,by omega,hc⟩
 simp (disch:=omega) only [e3,SSx C]
 rcases b5w C (n:=n) (k0:=k + 1) hn n (k + 1 + 1 + 1) [] (by omega) hd (by omega) (by simp only [szs]; omega) with ⟨ys,r,y1,y2,y3,y4⟩ | ⟨r,y1,y2,y3⟩
 case inr =>
  simp (disch:=omega) only [y1,SSx C]
  exact .inr ⟨r,rfl,by omega,y3⟩
 simp (disch:=omega) only [y1,SSx C]
 rcases b3I C (n:=n) (k0:=k + 1) hn n r ys (by omega) y3 (by omega) y4 with ⟨zs,u,z1,z2,z3,z4⟩ | ⟨u,z1,z2,z3⟩
 case inr =>
  simp (disch:=omega) only [z1,SSx C]
  exact .inr ⟨u,rfl,by omega,z3⟩
 simp (disch:=omega) only [z1,SSx C]
 rcases sgx C z3 125 [] with ⟨b,hd,e1,e2,e3,e4,e5⟩ | ⟨b,e1,e2,e3,e4,e5⟩
 ·simp (disch:=omega) only [e3,SSx C]
  exact .inl ⟨_,u + 1,rfl,by omega,hd,by simp only [szs]; omega,rfl⟩
 ·simp (disch:=omega) only [e3,SSx C]
  exact .inr ⟨u,rfl,by omega,z3⟩
theorem b6m {n k0:Nat} (hn:20000 <= n):∀ (m k:Nat) (xs:List Nod),k0 <= k -> k <= l.length -> l.length - k < m -> szN xs + 4 * k0 <= 4 * k ->
  (∃ (ys:List Nod) (q:Nat),U7 n size l m k xs = some (.brk ((q:Int),ys)) /\ k0 <= q /\ q <= l.length /\ szN ys + 4 * k0 <= 4 * q) ∨
  (∃ q:Nat,U7 n size l m k xs = some (.out (.pan (⟨⟨20,H6 l size q⟩⟩,(q:Int)))) /\ k0 <= q /\ q <= l.length)
 | 0,k,xs,h1,h2,h3,h4=>by omega
 | m + 1,k,xs,h1,h2,h3,h4=>by
  have hl:=C.hl
  have hlen:=a0e xs
  rw [U7.eq_2]
  rcases kyx C (k:=k) h2 116 [121,112,101] with ⟨b,hb,e1,e2,e3,e4,e5⟩ | ⟨b,e1,e2,e3,e4,e5⟩
  case inr =>
   rw [e4]
   exact .inl ⟨xs,k,rfl,h1,h2,h4⟩
  simp (disch:=omega) only [e4,SSx C]
  rcases capx C hb with ⟨hc,e⟩ | e
  case inr =>
   simp (disch:=omega) only [e,SSx C]
   exact .inr ⟨k + 1,rfl,by omega,hb⟩
  simp (disch:=omega) only [e,SSx C]
  rcases sgx C hc 61 [] with ⟨b,hd,e1,e2,e3,e4,e5⟩ | ⟨b,e1,e2,e3,e4,e5⟩
  case inr =>
   simp (disch:=omega) only [e3,SSx C]
   exact .inr ⟨k + 1 + 1,rfl,by omega,hc⟩
  simp (disch:=omega) only [e3,SSx C]
  rcases typo C hd hn with ⟨t,q,p1,p3,p4,p5⟩ | ⟨q,p1,p3,p4⟩
  case inr =>
   simp (disch:=omega) only [p1,SSx C]
   exact .inr ⟨q,rfl,by omega,p4⟩
  simp (disch:=omega) only [p1,SSx C]
  rcases sgx C p4 59 [] with ⟨b,hd2,e1,e2,e3,e4,e5⟩ | ⟨b,e1,e2,e3,e4,e5⟩
  case inr =>
   simp (disch:=omega) only [e3,SSx C]
   exact .inr ⟨q,rfl,by omega,p4⟩
  have a1:app 144 xs [(⟨17,O8 l (k + 1),0,t,[],[],H6 l size k⟩:Nod)] = some (xs ++ [(⟨17,O8 l (k + 1),0,t,[],[],H6 l size k⟩:Nod)]):=a1L (by omega) (by simp) (by omega)
  simp (disch:=omega) only [e3,a1,SSx C]
  exact b6m hn m (q + 1) _ (by omega) hd2 (by omega) (by simp only [szs]; omega)
theorem b4K {n k0:Nat} (hn:90000 <= n):∀ (m k:Nat) (xs:List Nod),k0 <= k -> k <= l.length -> l.length - k < m -> szN xs + 4 * k0 <= 4 * k ->
  (∃ (ys:List Nod) (q:Nat),S9 n size l m k xs = some (.brk ((q:Int),ys)) /\ k0 <= q /\ q <= l.length /\ szN ys + 4 * k0 <= 4 * q) ∨
  (∃ (q:Nat) (f:o6),S9 n size l m k xs = some (.out (.pan (f,(q:Int)))) /\ k0 <= q /\ q <= l.length /\ FaultO l size q f)
 | 0,k,xs,h1,h2,h3,h4=>by omega
 | m + 1,k,xs,h1,h2,h3,h4=>by
  have hl:=C.hl
  have hlen:=a0e xs
  rw [S9.eq_2]
  rcases kyx C (k:=k) (by omega) 102 [117,110,99] with ⟨b,hb,e1,e2,e3,e4,e5⟩ | ⟨b,e1,e2,e3,e4,e5⟩
  case inr =>
   rw [e4]
   exact .inl ⟨xs,k,rfl,h1,h2,h4⟩
  rw [e4,Option.bind_some,cond_true]
  rcases funco C (n:=n) h2 hn with ⟨x,q,p1,p3,p4,p5,_⟩ | ⟨q,f,p1,p3,p4,p5⟩
  case inr =>
   rw [p1]
   exact .inr ⟨q,f,rfl,by omega,p4,p5⟩
  have hx:=x.a13
  rw [p1,I5]
  simp only
  rw [a1L (by omega) (by simp) (by omega),Option.bind_some]
  exact b4K hn m q _ (by omega) p4 (by omega) (by simp only [szs]; omega)
theorem exto {n k:Nat} (hk:k <= l.length) (hn:90000 <= n):OkN l size k Nod.sz (fun x=>x.op = 6) (a02 n l k size):=by
 have hl:=C.hl
 unfold a02
 rcases kyx C (k:=k) (by omega) 101 [120,116,101,110,100] with ⟨b,hb,e1,e2,e3,e4,e5⟩ | ⟨b,e1,e2,e3,e4,e5⟩
 case inr =>
  simp (disch:=omega) only [e3,SSx C]
  exact .inr ⟨k,_,rfl,Nat.le_refl _,hk,.inl rfl⟩
 simp (disch:=omega) only [e3,SSx C]
 rcases typo C (n:=n) hb (by omega) with ⟨t,q,p1,p3,p4,p5⟩ | ⟨q,p1,p3,p4⟩
 case inr =>
  simp (disch:=omega) only [p1,SSx C]
  exact .inr ⟨q,_,rfl,by omega,p4,.inl rfl⟩
 simp (disch:=omega) only [p1,SSx C]
 rcases sgx C p4 58 [] with ⟨b,hd,e1,e2,e3,e4,e5⟩ | ⟨b,e1,e2,e3,e4,e5⟩
 case inr =>
  simp (disch:=omega) only [e3,SSx C]
  exact .inr ⟨q,_,rfl,by omega,p4,.inl rfl⟩
 simp (disch:=omega) only [e3,SSx C]
 rcases capx C hd with ⟨hc,e⟩ | e
 case inr =>
  simp (disch:=omega) only [e,SSx C]
  exact .inr ⟨q + 1,_,rfl,by omega,hd,.inl rfl⟩
 simp (disch:=omega) only [e,SSx C]
 rcases whereo C (n:=n) hc (by omega) with ⟨ws,q5,u1,u3,u4,u5,_⟩ | ⟨q5,u1,u3,u4⟩
 case inr =>
  simp (disch:=omega) only [u1,SSx C]
  exact .inr ⟨q5,_,rfl,by omega,u4,.inl rfl⟩
 simp (disch:=omega) only [u1,SSx C]
 rcases sgx C u4 123 [] with ⟨b,hd,e1,e2,e3,e4,e5⟩ | ⟨b,e1,e2,e3,e4,e5⟩
 case inr =>
  simp (disch:=omega) only [e3,SSx C]
  exact .inr ⟨q5,_,rfl,by omega,u4,.inl rfl⟩
 simp (disch:=omega) only [e3,SSx C]
 rcases b6m C (n:=n) (k0:=q + 1) (by omega) n (q5 + 1) ws (by omega) hd (by omega) (by omega) with ⟨ys,r,y1,y2,y3,y4⟩ | ⟨r,y1,y2,y3⟩
 case inr =>
  simp (disch:=omega) only [y1,SSx C]
  exact .inr ⟨r,_,rfl,by omega,y3,.inl rfl⟩
 simp (disch:=omega) only [y1,SSx C]
 rcases b4K C (n:=n) (k0:=q + 1) hn n r ys (by omega) y3 (by omega) y4 with ⟨zs,u,z1,z2,z3,z4⟩ | ⟨u,f,z1,z2,z3,z4⟩
 case inr =>
  simp (disch:=omega) only [z1,SSx C]
  exact .inr ⟨u,f,rfl,by omega,z3,z4⟩
 simp (disch:=omega) only [z1,SSx C]
 rcases sgx C z3 125 [] with ⟨b,hd,e1,e2,e3,e4,e5⟩ | ⟨b,e1,e2,e3,e4,e5⟩
 ·simp (disch:=omega) only [e3,SSx C]
  exact .inl ⟨_,u + 1,rfl,by omega,hd,by simp only [szs]; omega,rfl⟩
 ·simp (disch:=omega) only [e3,SSx C]
  exact .inr ⟨u,_,rfl,by omega,z3,.inl rfl⟩
def b4w (x:Nod):Prop:=2 <= x.op /\ x.op <= 7 /\ (x.op = 7 -> x.n = 1)
theorem declo {n k:Nat} (hk:k <= l.length) (hn:90000 <= n):OkN l size k Nod.sz b4w (U6 n l k size):=by
  have hl:=C.hl
  unfold U6
  rcases kyx C (k:=k) (by omega) 112 [114,111,116,111,99,111,108] with ⟨b,hb,e1,e2,e3,e4,e5⟩ | ⟨b,e1,e2,e3,e4,e5⟩
  · rw [e4,Option.bind_some,cond_true]
    rcases proto C (n:=n) hk (by omega) with ⟨x,q,p1,p3,p4,p5,p6⟩ | ⟨q,p1,p3,p4⟩
    · rw [p1]
      exact .inl ⟨x,q,rfl,p3,p4,p5,by rw [p6]; decide,by rw [p6]; decide,fun h=>by rw [p6] at h; cases h⟩
    · rw [p1]
      exact .inr ⟨q,_,rfl,p3,p4,.inl rfl⟩
  rw [e4,Option.bind_some,cond_false]
  rcases kyx C (k:=k) (by omega) 101 [120,116,101,110,100] with ⟨b,hb,e1,e2,e3,e4,e5⟩ | ⟨b,e1,e2,e3,e4,e5⟩
  · rw [e4,Option.bind_some,cond_true]
    rcases exto C (n:=n) hk hn with ⟨x,q,p1,p3,p4,p5,p6⟩ | ⟨q,f,p1,p3,p4,p5⟩
    · rw [p1]
      exact .inl ⟨x,q,rfl,p3,p4,p5,by rw [p6]; decide,by rw [p6]; decide,fun h=>by rw [p6] at h; cases h⟩
    · rw [p1]
      exact .inr ⟨q,f,rfl,p3,p4,p5⟩
  rw [e4,Option.bind_some,cond_false]
  rcases kyx C (k:=k) (by omega) 102 [117,110,99] with ⟨b,hb,e1,e2,e3,e4,e5⟩ | ⟨b,e1,e2,e3,e4,e5⟩
  · rw [e4,Option.bind_some,cond_true]
    rcases funco C (n:=n) hk hn with ⟨x,q,p1,p3,p4,p5,p6⟩ | ⟨q,f,p1,p3,p4,p5⟩
    · rw [p1]
      exact .inl ⟨x,q,rfl,p3,p4,p5,by rw [p6.1]; decide,by rw [p6.1]; decide,fun _=>p6.2⟩
    · rw [p1]
      exact .inr ⟨q,f,rfl,p3,p4,p5⟩
  rw [e4,Option.bind_some,cond_false,a4a C hk,Option.bind_some]
  have recd:∀ (j:Nat) (op nn:Int),2 <= op -> op <= 4 -> k <= j -> j + 1 <= l.length -> OkN l size k Nod.sz b4w (C9 (H7 l ((j + 1:Nat):Int) size) (fun r22 =>
      C9 (N9 n l (w64 (((j + 1:Nat):Int) + 1)) size) (fun (r23,at24) =>
      C9 (X9 n l at24 size) (fun (r25,at26) =>
      (app 144 r23 r25).bind fun l27 =>
      some (.ok ((⟨op,r22,nn,(⟨0,[],0,[]⟩:Typ),[],l27,H6 l size k⟩:Nod),at26))) fun (e28,at29) =>
      some (.pan (e28,at29))) fun (at30,at31) =>
      some (.pan ((⟨(⟨20,at30⟩:Flt)⟩:o6),at31))) fun at32 =>
      some (.pan ((⟨(⟨20,at32⟩:Flt)⟩:o6),((j + 1:Nat):Int)))):=by
    intro j op nn o1 o2 j1 j2
    rcases capx C j2 with ⟨hc,e⟩ | e
    case inr =>
      rw [e]
      exact .inr ⟨j + 1,_,rfl,by omega,j2,.inl rfl⟩
    rw [e,I5,a0d (by omega)]
    rcases b21 C (n:=n) hc (by omega) with ⟨gs,q,p1,p3,p4,p5,_⟩ | ⟨q,p1,p3,p4⟩
    case inr =>
      rw [p1]
      exact .inr ⟨q,_,rfl,by omega,p4,.inl rfl⟩
    have hgs:=a0e gs
    rw [p1,I5]
    simp only
    rcases fieldso C (n:=n) p4 hn with ⟨fs,q2,r1,r3,r4,r5,_⟩ | ⟨q2,f,r1,r3,r4,r5⟩
    case inr =>
      rw [r1]
      exact .inr ⟨q2,f,rfl,by omega,r4,r5⟩
    have hfs:=a0e fs
    rw [r1,I5]
    simp only
    rw [a1L (by omega) (by omega) (by omega),Option.bind_some]
    exact .inl ⟨_,q2,rfl,by omega,r4,by simp only [szs]; omega,o1,by show op <= 7; omega,fun h=>by have h:op = 7:=h; omega⟩
  rcases kyx C (k:=k) (by omega) 99 [108,97,115,115] with ⟨b,hb,e1,e2,e3,e4,e5⟩ | ⟨b,e1,e2,e3,e4,e5⟩
  · rw [e1,Option.bind_some]
    simp only [cond_true]
    exact recd k 4 0 (by decide) (by decide) (Nat.le_refl _) hb
  rw [e1,Option.bind_some]
  simp only [cond_false]
  obtain ⟨j,n1,m1,j1,j2⟩:∃ (j:Nat) (n1:Int),((F3 [109,111,118,101,111,110,108,121] l k size).bind fun (r33,at34) =>
      cond r33 (
      some (at34,(w64 (0 + 1)))) (
      some (at34,0))) = some ((j:Int),n1) /\ k <= j /\ j <= l.length:=by
    rcases kyx C (k:=k) (by omega) 109 [111,118,101,111,110,108,121] with ⟨b,hb,e1,e2,e3,e4,e5⟩ | ⟨b,e1,e2,e3,e4,e5⟩
    · rw [e1]; exact ⟨k + 1,_,rfl,by omega,hb⟩
    · rw [e1]; exact ⟨k,_,rfl,Nat.le_refl _,hk⟩
  rw [m1,Option.bind_some]
  simp only
  obtain ⟨i,n2,m2,i1,i2⟩:∃ (i:Nat) (n2:Int),((F3 [102,114,111,122,101,110] l j size).bind fun (r35,at36) =>
      cond r35 (
      some (at36,(w64 (n1 + 2)))) (
      some (at36,n1))) = some ((i:Int),n2) /\ k <= i /\ i <= l.length:=by
    rcases kyx C j2 102 [114,111,122,101,110] with ⟨b,hb,e1,e2,e3,e4,e5⟩ | ⟨b,e1,e2,e3,e4,e5⟩
    · rw [e1]; exact ⟨j + 1,_,rfl,by omega,hb⟩
    · rw [e1]; exact ⟨j,_,rfl,j1,j2⟩
  rw [m2,Option.bind_some]
  simp only
  have stru:OkN l size k Nod.sz b4w (C9 (J2 [115,116,114,117,99,116] l (i:Int) size) (fun at50 =>
      C9 (H7 l at50 size) (fun r51 =>
      C9 (N9 n l (w64 (at50 + 1)) size) (fun (r52,at53) =>
      C9 (X9 n l at53 size) (fun (r54,at55) =>
      (app 144 r52 r54).bind fun l56 =>
      some (.ok ((⟨2,r51,n2,(⟨0,[],0,[]⟩:Typ),[],l56,H6 l size k⟩:Nod),at55))) fun (e57,at58) =>
      some (.pan (e57,at58))) fun (at59,at60) =>
      some (.pan ((⟨(⟨20,at59⟩:Flt)⟩:o6),at60))) fun at61 =>
      some (.pan ((⟨(⟨20,at61⟩:Flt)⟩:o6),at50))) fun (at62,at63) =>
      some (.pan ((⟨(⟨20,at62⟩:Flt)⟩:o6),at63))):=by
    rcases kyx C i2 115 [116,114,117,99,116] with ⟨b,hb,e1,e2,e3,e4,e5⟩ | ⟨b,e1,e2,e3,e4,e5⟩
    · rw [e3,I5]
      exact recd i 2 n2 (by decide) (by decide) i1 hb
    · rw [e3]
      exact .inr ⟨i,_,rfl,i1,i2,.inl rfl⟩
  have enu:∀ (j:Nat),k <= j -> j + 1 <= l.length -> OkN l size k Nod.sz b4w (C9 (H7 l ((j + 1:Nat):Int) size) (fun r39 =>
      C9 (N9 n l (w64 (((j + 1:Nat):Int) + 1)) size) (fun (r40,at41) =>
      C9 (a0Q n l at41 size) (fun (r42,at43) =>
      (app 144 r40 r42).bind fun l44 =>
      some (.ok ((⟨3,r39,n2,(⟨0,[],0,[]⟩:Typ),[],l44,H6 l size k⟩:Nod),at43))) fun (at45,at46) =>
      some (.pan ((⟨(⟨20,at45⟩:Flt)⟩:o6),at46))) fun (at47,at48) =>
      some (.pan ((⟨(⟨20,at47⟩:Flt)⟩:o6),at48))) fun at49 =>
      some (.pan ((⟨(⟨20,at49⟩:Flt)⟩:o6),((j + 1:Nat):Int)))):=by
    intro j j1 j2
    rcases capx C j2 with ⟨hc,e⟩ | e
    case inr =>
      rw [e]
      exact .inr ⟨j + 1,_,rfl,by omega,j2,.inl rfl⟩
    rw [e,I5,a0d (by omega)]
    rcases b21 C (n:=n) hc (by omega) with ⟨gs,q,p1,p3,p4,p5,_⟩ | ⟨q,p1,p3,p4⟩
    case inr =>
      rw [p1]
      exact .inr ⟨q,_,rfl,by omega,p4,.inl rfl⟩
    have hgs:=a0e gs
    rw [p1,I5]
    simp only
    rcases caseso C (n:=n) p4 (by omega) with ⟨fs,q2,r1,r3,r4,r5,_⟩ | ⟨q2,r1,r3,r4⟩
    case inr =>
      rw [r1]
      exact .inr ⟨q2,_,rfl,by omega,r4,.inl rfl⟩
    have hfs:=a0e fs
    rw [r1,I5]
    simp only
    rw [a1L (by omega) (by omega) (by omega),Option.bind_some]
    exact .inl ⟨_,q2,rfl,by omega,r4,by simp only [szs]; omega,by show (2:Int) <= 3; decide,by show (3:Int) <= 7; decide,fun h=>by have h:(3:Int) = 7:=h; cases h⟩
  cases eqB (IntKind.wrap .i64 ((BitVec.ofInt 64 n2 &&& BitVec.ofInt 64 1).toNat:Nat)) 0
  · simp only [cond_false,Option.bind_some]
    exact stru
  · simp only [cond_true]
    rcases kyx C i2 101 [110,117,109] with ⟨b,hb,e1,e2,e3,e4,e5⟩ | ⟨b,e1,e2,e3,e4,e5⟩
    · rw [e1]
      simp only [Option.bind_some,cond_true]
      exact enu i i1 hb
    · rw [e1]
      simp only [Option.bind_some,cond_false]
      exact stru
end
end Go.Proofs.YtlfomdllnidliaaGreatDoor
