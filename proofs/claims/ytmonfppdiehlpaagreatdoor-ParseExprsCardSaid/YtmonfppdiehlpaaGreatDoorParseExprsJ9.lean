/- What the functions under ParseExprs compute, step by step, as functions in Lean: texts that were built one by one, joined. -/
import Derived.Test.YtmonfppdiehlpaaGreatDoorParseExprsJ8
import Derived.KernelRfl
import Derived.Test.YtmonfppdiehlpaaGreatDoorProg
import Derived.Tactics
import Derived.Tactics2
import Derived.Defers
import Derived.Recover
import Derived.Laws.Pointers
import Derived.BigCall
import Derived.BigGuard
set_option maxRecDepth 100000
set_option maxHeartbeats 20000000
set_option linter.unusedSimpArgs false
set_option linter.unusedVariables false
set_option linter.unusedSectionVars false
namespace Go.Proofs.YtmonfppdiehlpaaGreatDoor
open Go Go.Vm
section
variable {l:List Tok} {size:Int} (C:Cx l size)
include C
theorem kyt {k:Nat} {a:UInt8} {r:Str} (h:isT l 9 (a :: r) k = true):k + 1 <= l.length /\ J5 (a :: r) l k size = some (true,((k + 1:Nat):Int)) /\ E9 (a :: r) l size k (-1) = some (true,((k + 1:Nat):Int)) /\ P9 (a :: r) l k size = some (.ok ((k + 1:Nat):Int)) /\ D6 0 9 (a :: r) l k size = some true /\ G9 9 (a :: r) l size k (-1) = some true:=by
 rcases kyx C (Nat.le_of_lt (a6a h)) a r with ⟨_,h⟩ | ⟨h2,_⟩
 ·exact h
 ·rw [h] at h2; cases h2
theorem b8c {N n n' k:Nat} (hN:24000 <= N) (hn:N + 1 <= n) (hn':N + 1 <= n') (hk:k <= l.length) (H:Hyp l size (k + 1) N) (hw:isT l 9 [108,101,116] k = true ∨ isT l 9 [118,97,114] k = true) :
    a3C l size k Nod.sz (G 1) ((j3.fs n).a0O l k size) ((d9.fs n').a1f l size k (-1)):=by
  have hl:=C.hl
  obtain ⟨n,rfl⟩:∃ q,n = q + 1:=⟨n - 1,by omega⟩
  obtain ⟨n',rfl⟩:∃ q,n' = q + 1:=⟨n' - 1,by omega⟩
  show a3C l size k Nod.sz (G 1) (a19 n (j3.fs n) l k size) (a2e n' (d9.fs n') l size k (-1))
  unfold a19 a2e
  obtain ⟨nn,hb,hnn,m1,m2⟩:∃ nn:Int,k + 1 <= l.length /\ (nn = 0 ∨ nn = 1) /\ ((J5 [118,97,114] l k size).bind fun (r5,at6) =>
      cond r5 (
      some (.brk (at6,1))) (
      F9 (P9 [108,101,116] l at6 size) (fun at7 =>
      some (.brk (at7,0))) fun (at8,at9) =>
      some (.out (.pan ((⟨(⟨20,at8⟩:Flt)⟩:o7),at9))))) = some (Lr.brk (α:=Int × Int) (ρ:=Rs (Nod × Int) (o7 × Int)) (((k + 1:Nat):Int),nn)) /\ ((E9 [118,97,114] l size k (-1)).bind fun (r6,at7) =>
      cond r6 (
      some (at7,(1:Int))) (
      (E9 [108,101,116] l size at7 (-1)).bind fun (r8,at9) =>
      some (at9,(0:Int)))) = some ((((k + 1:Nat):Int),nn):Int × Int):=by
    rcases kyx C hk 118 [97,114] with ⟨b,hb,e1,e2,e3,e4,e5⟩ | ⟨b,e1,e2,e3,e4,e5⟩
    · rw [e1,e2]; exact ⟨1,hb,.inr rfl,rfl,rfl⟩
    · have hw:isT l 9 [108,101,116] k = true:=by
        rcases hw with h | h
        · exact h
        · rw [h] at b; cases b
      obtain ⟨hb,f1,f2,f3,f4,f5⟩:=kyt C hw
      rw [e1,e2]
      simp only [Option.bind_some,cond_false]
      rw [f2,f3]; exact ⟨0,hb,.inl rfl,rfl,rfl⟩
  rw [a8a C hk,a4Y C.hl hk,Option.bind_some,Option.bind_some,m1,m2,a0W,Option.bind_some]
  rcases nmx C hb with ⟨c,hc,e1,e2,e3⟩ | ⟨c,e1,e2,e3⟩
  case inr =>
    simp (disch:=omega) only [e1,e2,SSx C]
    exact .inr ⟨_,k + 1,-1,_,rfl,rfl,by omega,hb,a0E l size (k + 1)⟩
  have v1:eqB 1 1 = true:=a4j rfl
  have v2:eqB 0 1 = false:=a6Q (by decide)
  have v3:eqB 1 0 = false:=a6Q (by decide)
  have v4:eqB 0 0 = true:=a4j rfl
  simp (disch:=omega) only [e1,e2,SSx C]
  rcases sgx C hc 58 [] with ⟨b,hd,e1,e2,e3,e4,e5⟩ | ⟨b,e1,e2,e3,e4,e5⟩
  · simp (disch:=omega) only [e1,e2,SSx C]
    rcases typ4 C (n:=n) (n':=n') hd (by omega) (by omega) with ⟨t,r,p1,p2,p3,p4,p5⟩ | ⟨t,r,p1,p2,p3,p4⟩
    case inr =>
      simp (disch:=omega) only [p1,p2,SSx C]
      exact .inr ⟨_,r,-1,_,rfl,rfl,by omega,p4,a0E l size r⟩
    simp (disch:=omega) only [p1,p2,SSx C]
    rcases hnn with rfl | rfl
    · simp (disch:=omega) only [v2,SSx C]
      rcases sgx C p4 61 [] with ⟨b,hs,e1,e2,e3,e4,e5⟩ | ⟨b,e1,e2,e3,e4,e5⟩
      · simp (disch:=omega) only [e2,e3,SSx C]
        rcases H.expr (r + 1) n n' (by omega) hs (by omega) (by omega) with ⟨x,q,s1,s2,s3,s4,s5,s6⟩ | ⟨x,q,pl,f,s1,s2,s3,s4,s5⟩
        · simp (disch:=omega) only [s1,s2,SSx C]
          rcases sgx C s4 59 [] with ⟨b,hs,e1,e2,e3,e4,e5⟩ | ⟨b,e1,e2,e3,e4,e5⟩
          · simp (disch:=omega) only [e2,e3,SSx C]
            exact .inl ⟨⟨21,R4 l (k + 1),0,t,[],[x],O1 l size k⟩,q + 1,by rw [a7X],by rw [a7X],by omega,hs,by simp only [nsz,tsz,a7e,a6X,a7D,a7X]; omega,.let1 (C.pos k) (.inl rfl) s6⟩
          · simp (disch:=omega) only [e2,e3,SSx C]
            exact .inr ⟨_,q,-1,_,rfl,rfl,by omega,s4,a0E l size q⟩
        · simp (disch:=omega) only [s1,s2,SSx C]
          exact .inr ⟨_,q,pl,f,rfl,rfl,by omega,s4,s5⟩
      · simp (disch:=omega) only [e2,e3,v4,SSx C]
        exact .inr ⟨_,r,-1,_,rfl,rfl,by omega,p4,a0E l size (r)⟩
    · simp (disch:=omega) only [v1,SSx C]
      rcases sgx C p4 59 [] with ⟨b,hs,e1,e2,e3,e4,e5⟩ | ⟨b,e1,e2,e3,e4,e5⟩
      · obtain ⟨f1,f2,f3,f4,f5⟩:=sgf C p4 (b9z C b (u:=[61]) (by decide))
        simp (disch:=omega) only [e1,e2,f2,v3,SSx C]
        exact .inl ⟨_,r + 1,by rw [a7X],rfl,by omega,hs,by simp only [nsz,tsz,a7e,a6X,a7X]; omega,.let0 (C.pos k)⟩
      · simp (disch:=omega) only [e1,SSx C]
        have g2:=e2
        rcases sgx C p4 61 [] with ⟨b,hs,e1,e2,e3,e4,e5⟩ | ⟨b,e1,e2,e3,e4,e5⟩
        · simp (disch:=omega) only [e2,e3,SSx C]
          rcases H.expr (r + 1) n n' (by omega) hs (by omega) (by omega) with ⟨x,q,s1,s2,s3,s4,s5,s6⟩ | ⟨x,q,pl,f,s1,s2,s3,s4,s5⟩
          · simp (disch:=omega) only [s1,s2,SSx C]
            rcases sgx C s4 59 [] with ⟨b,hs,e1,e2,e3,e4,e5⟩ | ⟨b,e1,e2,e3,e4,e5⟩
            · simp (disch:=omega) only [e2,e3,SSx C]
              exact .inl ⟨⟨21,R4 l (k + 1),1,t,[],[x],O1 l size k⟩,q + 1,by rw [a7X],by rw [a7X],by omega,hs,by simp only [nsz,tsz,a7e,a6X,a7D,a7X]; omega,.let1 (C.pos k) (.inr rfl) s6⟩
            · simp (disch:=omega) only [e2,e3,SSx C]
              exact .inr ⟨_,q,-1,_,rfl,rfl,by omega,s4,a0E l size q⟩
          · simp (disch:=omega) only [s1,s2,SSx C]
            exact .inr ⟨_,q,pl,f,rfl,rfl,by omega,s4,s5⟩
        · simp (disch:=omega) only [e2,e3,g2,v3,SSx C]
          exact .inr ⟨_,r,-1,_,rfl,rfl,by omega,p4,a0E l size (r)⟩
  · simp (disch:=omega) only [e1,e2,SSx C]
    rcases hnn with rfl | rfl
    · simp (disch:=omega) only [v2,SSx C]
      rcases sgx C hc 61 [] with ⟨b,hs,e1,e2,e3,e4,e5⟩ | ⟨b,e1,e2,e3,e4,e5⟩
      · simp (disch:=omega) only [e2,e3,SSx C]
        rcases H.expr (k + 1 + 1 + 1) n n' (by omega) hs (by omega) (by omega) with ⟨x,q,s1,s2,s3,s4,s5,s6⟩ | ⟨x,q,pl,f,s1,s2,s3,s4,s5⟩
        · simp (disch:=omega) only [s1,s2,SSx C]
          rcases sgx C s4 59 [] with ⟨b,hs,e1,e2,e3,e4,e5⟩ | ⟨b,e1,e2,e3,e4,e5⟩
          · simp (disch:=omega) only [e2,e3,SSx C]
            exact .inl ⟨⟨21,R4 l (k + 1),0,zT,[],[x],O1 l size k⟩,q + 1,rfl,rfl,by omega,hs,by simp only [nsz,tsz,a7e,a6X,a7D,a7X]; omega,.let1 (C.pos k) (.inl rfl) s6⟩
          · simp (disch:=omega) only [e2,e3,SSx C]
            exact .inr ⟨_,q,-1,_,rfl,rfl,by omega,s4,a0E l size q⟩
        · simp (disch:=omega) only [s1,s2,SSx C]
          exact .inr ⟨_,q,pl,f,rfl,rfl,by omega,s4,s5⟩
      · simp (disch:=omega) only [e2,e3,v4,SSx C]
        exact .inr ⟨_,k + 1 + 1,-1,_,rfl,rfl,by omega,hc,a0E l size (k + 1 + 1)⟩
    · simp (disch:=omega) only [v1,SSx C]
      rcases sgx C hc 61 [] with ⟨b,hs,e1,e2,e3,e4,e5⟩ | ⟨b,e1,e2,e3,e4,e5⟩
      · simp (disch:=omega) only [e2,e3,SSx C]
        rcases H.expr (k + 1 + 1 + 1) n n' (by omega) hs (by omega) (by omega) with ⟨x,q,s1,s2,s3,s4,s5,s6⟩ | ⟨x,q,pl,f,s1,s2,s3,s4,s5⟩
        · simp (disch:=omega) only [s1,s2,SSx C]
          rcases sgx C s4 59 [] with ⟨b,hs,e1,e2,e3,e4,e5⟩ | ⟨b,e1,e2,e3,e4,e5⟩
          · simp (disch:=omega) only [e2,e3,SSx C]
            exact .inl ⟨⟨21,R4 l (k + 1),1,zT,[],[x],O1 l size k⟩,q + 1,rfl,rfl,by omega,hs,by simp only [nsz,tsz,a7e,a6X,a7D,a7X]; omega,.let1 (C.pos k) (.inr rfl) s6⟩
          · simp (disch:=omega) only [e2,e3,SSx C]
            exact .inr ⟨_,q,-1,_,rfl,rfl,by omega,s4,a0E l size q⟩
        · simp (disch:=omega) only [s1,s2,SSx C]
          exact .inr ⟨_,q,pl,f,rfl,rfl,by omega,s4,s5⟩
      · simp (disch:=omega) only [e2,e3,v3,SSx C]
        exact .inr ⟨_,k + 1 + 1,-1,_,rfl,rfl,by omega,hc,a0E l size (k + 1 + 1)⟩
theorem block_at {N n n' k:Nat} (hN:24000 <= N) (hn:N + 1 <= n) (hn':N + 1 <= n') (hk:k <= l.length) (H:Hyp l size (k + 1) N) :
  a3C l size k Nod.sz (G 2) ((j3.fs n).G5 l k size) ((d9.fs n').J4 l size k (-1)):=by
 have hl:=C.hl
 obtain ⟨n,rfl⟩:∃ q,n = q + 1:=⟨n - 1,by omega⟩
 obtain ⟨n',rfl⟩:∃ q,n' = q + 1:=⟨n' - 1,by omega⟩
 show a3C l size k Nod.sz (G 2) (a2f n (j3.fs n) l k size) (a2b n' (d9.fs n') l size k (-1))
 unfold a2f a2b
 rcases sgx C hk 123 [] with ⟨b,hb,e1,e2,e3,e4,e5⟩ | ⟨b,e1,e2,e3,e4,e5⟩
 ·simp (disch:=omega) only [e2,e3,SSx C]
  rcases H.stmts (k + 1) n n' (Nat.le_refl _) hb (by omega) (by omega) with ⟨x,q,p1,p2,p3,p4,p5,p6⟩ | ⟨x,q,pl,f,p1,p2,p3,p4,p5⟩
  ·have p5:szN x + 4 + 4 * (k + 1) <= 4 * q:=p5
   simp (disch:=omega) only [p1,p2,SSx C]
   exact .inl ⟨_,q,rfl,rfl,by omega,p4,by simp only [szs]; omega,.block (C.pos k) p6⟩
  ·simp (disch:=omega) only [p1,p2,SSx C]
   exact .inr ⟨_,q,pl,f,rfl,rfl,by omega,p4,p5⟩
 ·simp (disch:=omega) only [e2,e3,SSx C]
  exact .inr ⟨_,k,-1,_,rfl,rfl,Nat.le_refl _,hk,a0E l size k⟩
theorem if_at {N n n' k:Nat} (hN:24000 <= N) (hn:N + 1 <= n) (hn':N + 1 <= n') (hk:k <= l.length) (H:Hyp l size (k + 1) N) (hw:isT l 9 [105,102] k = true) :
  a3C l size k Nod.sz (fun x=>G 1 x /\ x.op = 24) ((j3.fs n).M9 l k size) ((d9.fs n').Q8 l size k (-1)):=by
 have hl:=C.hl
 obtain ⟨n,rfl⟩:∃ q,n = q + 1:=⟨n - 1,by omega⟩
 obtain ⟨n',rfl⟩:∃ q,n' = q + 1:=⟨n' - 1,by omega⟩
 show a3C l size k Nod.sz (fun x=>G 1 x /\ x.op = 24) (a0L n (j3.fs n) l k size) (a0N n' (d9.fs n') l size k (-1))
 unfold a0L a0N
 obtain ⟨hb,e1,e2,e3,e4,e5⟩:=kyt C hw
 simp (disch:=omega) only [e2,e3,SSx C]
 rcases H.expr (k + 1) n n' (Nat.le_refl _) hb (by omega) (by omega) with ⟨x,q,p1,p2,p3,p4,p5,p6⟩ | ⟨x,q,pl,f,p1,p2,p3,p4,p5⟩
 case inr =>
  simp (disch:=omega) only [p1,p2,SSx C]
  exact .inr ⟨_,q,pl,f,rfl,rfl,by omega,p4,p5⟩
 have hx:=x.a2I
 simp (disch:=omega) only [p1,p2,SSx C]
 rcases H.block q n n' (by omega) p4 (by omega) (by omega) with ⟨y,q2,r1,r2,r3,r4,r5,r6⟩ | ⟨y,q2,pl,f,r1,r2,r3,r4,r5⟩
 case inr =>
  simp (disch:=omega) only [r1,r2,SSx C]
  exact .inr ⟨_,q2,pl,f,rfl,rfl,by omega,r4,r5⟩
 have hy:=y.a2I
 simp (disch:=omega) only [r1,r2,b6o x y (show 144 <= 1000 by omega),SSx C]
 rcases kyx C r4 101 [108,115,101] with ⟨b,hb,e1,e2,e3,e4,e5⟩ | ⟨b,e1,e2,e3,e4,e5⟩
 ·simp (disch:=omega) only [e1,e2,SSx C]
  rcases kyx C hb 105 [102] with ⟨b,hb2,e1,e2,e3,e4,e5⟩ | ⟨b,e1,e2,e3,e4,e5⟩
  ·simp (disch:=omega) only [e4,e5,SSx C]
   rcases H.iff (q2 + 1) n n' b (by omega) hb (by omega) (by omega) with ⟨z,q3,s1,s2,s3,s4,s5,s6⟩ | ⟨z,q3,pl,f,s1,s2,s3,s4,s5⟩
   ·simp (disch:=omega) only [s1,s2,app_2 x y z (show 144 <= 1000 by omega),SSx C]
    exact .inl ⟨_,q3,rfl,rfl,by omega,s4,by simp only [szs]; omega,.if4 (C.pos k) p6 r6 s6.1 s6.2,rfl⟩
   ·simp (disch:=omega) only [s1,s2,SSx C]
    exact .inr ⟨_,q3,pl,f,rfl,rfl,by omega,s4,s5⟩
  ·simp (disch:=omega) only [e4,e5,SSx C]
   rcases H.block (q2 + 1) n n' (by omega) hb (by omega) (by omega) with ⟨z,q3,s1,s2,s3,s4,s5,s6⟩ | ⟨z,q3,pl,f,s1,s2,s3,s4,s5⟩
   ·simp (disch:=omega) only [s1,s2,app_2 x y z (show 144 <= 1000 by omega),SSx C]
    exact .inl ⟨_,q3,rfl,rfl,by omega,s4,by simp only [szs]; omega,.if3 (C.pos k) p6 r6 s6,rfl⟩
   ·simp (disch:=omega) only [s1,s2,SSx C]
    exact .inr ⟨_,q3,pl,f,rfl,rfl,by omega,s4,s5⟩
 ·simp (disch:=omega) only [e1,e2,SSx C]
  exact .inl ⟨_,q2,rfl,rfl,by omega,r4,by simp only [szs]; omega,.if2 (C.pos k) p6 r6,rfl⟩
theorem b5g {N n n' k0:Nat} {x0:Nod} (hN:24000 <= N) (hn:N <= n) (hn':N <= n') (H:Hyp l size (k0 + 1) N):∀ (m m' k:Nat) (xs:List Nod),k0 <= k -> k <= l.length -> l.length - k < m -> l.length - k < m' -> szN xs + 4 * k0 <= 4 * k -> (∀ x ∈ xs,G 5 x) ->
  (∃ (q:Nat) (ys:List Nod),a0y n (j3.fs n) size l m k (x0 :: xs) = some (.brk ((q:Int),x0 :: ys)) /\ a0w n' (d9.fs n') size l m' (x0 :: xs) k (-1) = some (.brk (x0 :: ys,(q:Int),-1)) /\ k <= q /\ q <= l.length /\ szN ys + 4 * k0 <= 4 * q /\ ∀ x ∈ ys,G 5 x) ∨
  (∃ (q:Nat) (y:List Nod) (pl:Int) (f:o7),a0y n (j3.fs n) size l m k (x0 :: xs) = some (.out (.pan (f,(q:Int)))) /\ a0w n' (d9.fs n') size l m' (x0 :: xs) k (-1) = some (.out (y,false,(q:Int),pl)) /\ k <= q /\ q <= l.length /\ a4x l size q pl f)
 | 0,m',k,xs,h1,h2,h3,h4,h5,h6=>by omega
 | m + 1,0,k,xs,h1,h2,h3,h4,h5,h6=>by omega
 | m + 1,m' + 1,k,xs,h1,h2,h3,h4,h5,h6=>by
  have hl:=C.hl
  have hlen:=a4w xs
  rw [a0y.eq_2,a0w.eq_2]
  rcases kyx C h2 99 [97,115,101] with ⟨b,hb,e1,e2,e3,e4,e5⟩ | ⟨b,e1,e2,e3,e4,e5⟩
  ·simp (disch:=omega) only [e4,e5,e2,SSx C]
   rcases pat_sim C (n:=n) (n':=n') hb (by omega) (by omega) with ⟨x,q,p1,p2,p3,p4,p5,p6⟩ | ⟨x,q,p1,p2,p3,p4⟩
   case inr =>
    simp (disch:=omega) only [p1,p2,SSx C]
    exact .inr ⟨q,_,-1,_,rfl,rfl,by omega,p4,a0E l size q⟩
   have hx:=x.a2I
   simp (disch:=omega) only [p1,p2,SSx C]
   rcases H.block q n n' (by omega) p4 (by omega) (by omega) with ⟨y,q2,r1,r2,r3,r4,r5,r6⟩ | ⟨y,q2,pl,f,r1,r2,r3,r4,r5⟩
   case inr =>
    simp (disch:=omega) only [r1,r2,SSx C]
    exact .inr ⟨q2,_,pl,f,rfl,rfl,by omega,r4,r5⟩
   have hy:=y.a2I
   have a1:app 144 (x0 :: xs) [(⟨27,[],0,zT,[],[x,y],O1 l size k⟩:Nod)] = some (x0 :: (xs ++ [(⟨27,[],0,zT,[],[x,y],O1 l size k⟩:Nod)])):=a6N (l:=x0 :: xs) (by simp only [List.length_cons]; omega) (by simp) (by omega)
   simp (disch:=omega) only [r1,r2,b6o x y (show 144 <= 1000 by omega),a1,SSx C]
   rcases b5g hN hn hn' H m m' q2 (xs ++ [(⟨27,[],0,zT,[],[x,y],O1 l size k⟩:Nod)]) (by omega) r4 (by omega) (by omega) (by simp only [szs]; omega) (a5r h6 (a4A (.arm (C.pos k) p6 r6))) with ⟨q',ys,y1,y2,y3,y4,y5,y6⟩ | ⟨q',y,pl,f,y1,y2,y3,y4,y5⟩
   ·exact .inl ⟨q',ys,y1,y2,by omega,y4,y5,y6⟩
   ·exact .inr ⟨q',y,pl,f,y1,y2,by omega,y4,y5⟩
  ·simp (disch:=omega) only [e4,e5,SSx C]
   exact .inl ⟨k,xs,rfl,rfl,Nat.le_refl _,h2,h5,h6⟩
theorem match_at {N n n' k:Nat} (hN:24000 <= N) (hn:N + 1 <= n) (hn':N + 1 <= n') (hk:k <= l.length) (H:Hyp l size (k + 1) N) (hw:isT l 9 [109,97,116,99,104] k = true) :
  a3C l size k Nod.sz (G 1) ((j3.fs n).a0S l k size) (((d9.fs n').a1g (O1 l size k) l size ((k + 1:Nat):Int) (-1)).bind fun (l29,r30,at31,b1i)=>some (((⟨26,[],0,(⟨0,[],0,[]⟩:Typ),[],l29,O1 l size k⟩:Nod),r30,at31,b1i))):=by
 have hl:=C.hl
 obtain ⟨n,rfl⟩:∃ q,n = q + 1:=⟨n - 1,by omega⟩
 obtain ⟨n',rfl⟩:∃ q,n' = q + 1:=⟨n' - 1,by omega⟩
 show a3C l size k Nod.sz (G 1) (a2g n (j3.fs n) l k size) ((a2d n' (d9.fs n') (O1 l size k) l size ((k + 1:Nat):Int) (-1)).bind fun (l29,r30,at31,b1i)=>some (((⟨26,[],0,(⟨0,[],0,[]⟩:Typ),[],l29,O1 l size k⟩:Nod),r30,at31,b1i)))
 unfold a2g a2d
 obtain ⟨hb,e1,e2,e3,e4,e5⟩:=kyt C hw
 simp (disch:=omega) only [e3,SSx C]
 rcases H.expr (k + 1) n n' (Nat.le_refl _) hb (by omega) (by omega) with ⟨x,q,p1,p2,p3,p4,p5,p6⟩ | ⟨x,q,pl,f,p1,p2,p3,p4,p5⟩
 case inr =>
  simp (disch:=omega) only [p1,p2,SSx C]
  exact .inr ⟨_,q,pl,f,rfl,rfl,by omega,p4,p5⟩
 have hx:=x.a2I
 simp (disch:=omega) only [p1,p2,SSx C]
 rcases sgx C p4 123 [] with ⟨b,hb2,e1,e2,e3,e4,e5⟩ | ⟨b,e1,e2,e3,e4,e5⟩
 case inr =>
  simp (disch:=omega) only [e2,e3,SSx C]
  exact .inr ⟨_,q,-1,_,rfl,rfl,by omega,p4,a0E l size q⟩
 simp (disch:=omega) only [e2,e3,SSx C]
 rcases b5g C (n:=n) (n':=n') (k0:=q) (x0:=x) hN (by omega) (by omega) ⟨fun k n n' h=>H.expr k n n' (by omega),fun k n n' h=>H.unary k n n' (by omega),fun j k n n' hj h=>H.lev j k n n' hj (by omega),fun m0 k n n' hm h=>H.args m0 k n n' hm (by omega),fun k n n' h=>H.stmts k n n' (by omega),fun k n n' h=>H.stmt k n n' (by omega),fun k n n' h=>H.block k n n' (by omega),fun k n n' hi h=>H.iff k n n' hi (by omega)⟩ n n' (q + 1) [] (by omega) hb2 (by omega) (by omega) (by simp only [szs]; omega) all_nil with ⟨q',ys,y1,y2,y3,y4,y5,y6⟩ | ⟨q',y,pl,f,y1,y2,y3,y4,y5⟩
 case inr =>
  simp (disch:=omega) only [y1,y2,SSx C]
  exact .inr ⟨_,q',pl,f,rfl,rfl,by omega,y4,y5⟩
 have hyl:=a4w ys
 simp (disch:=omega) only [y1,y2,SSx C]
 rcases kyx C y4 100 [101,102,97,117,108,116] with ⟨b,hb,e1,e2,e3,e4,e5⟩ | ⟨b,e1,e2,e3,e4,e5⟩
 ·simp (disch:=omega) only [e1,e2,e5,SSx C]
  rcases H.block (q' + 1) n n' (by omega) hb (by omega) (by omega) with ⟨z,q3,s1,s2,s3,s4,s5,s6⟩ | ⟨z,q3,pl,f,s1,s2,s3,s4,s5⟩
  case inr =>
   simp (disch:=omega) only [s1,s2,SSx C]
   exact .inr ⟨_,q3,pl,f,rfl,rfl,by omega,s4,s5⟩
  have a1:∀ w:Nod,app 144 (x :: ys) [w] = some (x :: (ys ++ [w])):=fun w=>a6N (l:=x :: ys) (by simp only [List.length_cons]; omega) (by simp) (by omega)
  simp (disch:=omega) only [s1,s2,b6o _ z (show 144 <= 1000 by omega),a1,SSx C]
  rcases sgx C s4 125 [] with ⟨b,hb2,e1,e2,e3,e4,e5⟩ | ⟨b,e1,e2,e3,e4,e5⟩
  ·simp (disch:=omega) only [e2,e3,SSx C]
   exact .inl ⟨_,q3 + 1,rfl,rfl,by omega,hb2,by simp only [szs]; omega,.mat (C.pos k) p6 (a5r y6 (a4A (.arm (C.pos q') (.wild (C.pos q')) s6)))⟩
  ·simp (disch:=omega) only [e2,e3,SSx C]
   exact .inr ⟨_,q3,-1,_,rfl,rfl,by omega,s4,a0E l size q3⟩
 ·simp (disch:=omega) only [e1,e2,e5,SSx C]
  rcases sgx C y4 125 [] with ⟨b,hb2,e1,e2,e3,e4,e5⟩ | ⟨b,e1,e2,e3,e4,e5⟩
  ·simp (disch:=omega) only [e2,e3,SSx C]
   exact .inl ⟨_,q' + 1,rfl,rfl,by omega,hb2,by simp only [szs]; omega,.mat (C.pos k) p6 y6⟩
  ·simp (disch:=omega) only [e2,e3,SSx C]
   exact .inr ⟨_,q',-1,_,rfl,rfl,by omega,y4,a0E l size q'⟩
theorem kyv {k:Nat} (hk:k <= l.length) (a:UInt8) (r:Str):E9 (a :: r) l size k (-1) = some (isT l 9 (a :: r) k,((cond (isT l 9 (a :: r) k) (k + 1) k:Nat):Int)):=by
 rcases kyx C hk a r with ⟨b,_,_,e,_⟩ | ⟨b,_,e,_⟩ <;> rw [e,b] <;> rfl
theorem nxv {k:Nat} (hk:k <= l.length) (a:UInt8) (r:Str):G9 9 (a :: r) l size k (-1) = some (isT l 9 (a :: r) k):=a7R C.hl hk size (-1) 9 (a :: r)
omit C in
theorem wq:eqS [108,101,116] [108,101,116] = true /\ eqS [108,101,116] [118,97,114] = false /\ eqS [108,101,116] [105,102] = false /\ eqS [108,101,116] [109,97,116,99,104] = false /\ eqS [108,101,116] [100,101,102,101,114] = false /\ eqS [108,101,116] [119,104,105,108,101] = false /\ eqS [108,101,116] [114,101,116,117,114,110] = false /\ eqS [108,101,116] [116,104,114,111,119] = false /\ eqS [108,101,116] [100,111] = false /\ eqS [118,97,114] [108,101,116] = false /\ eqS [118,97,114] [118,97,114] = true /\ eqS [118,97,114] [105,102] = false /\ eqS [118,97,114] [109,97,116,99,104] = false /\ eqS [118,97,114] [100,101,102,101,114] = false /\ eqS [118,97,114] [119,104,105,108,101] = false /\ eqS [118,97,114] [114,101,116,117,114,110] = false /\ eqS [118,97,114] [116,104,114,111,119] = false /\ eqS [118,97,114] [100,111] = false /\ eqS [105,102] [108,101,116] = false /\ eqS [105,102] [118,97,114] = false /\ eqS [105,102] [105,102] = true /\ eqS [105,102] [109,97,116,99,104] = false /\ eqS [105,102] [100,101,102,101,114] = false /\ eqS [105,102] [119,104,105,108,101] = false /\ eqS [105,102] [114,101,116,117,114,110] = false /\ eqS [105,102] [116,104,114,111,119] = false /\ eqS [105,102] [100,111] = false /\ eqS [109,97,116,99,104] [108,101,116] = false /\ eqS [109,97,116,99,104] [118,97,114] = false /\ eqS [109,97,116,99,104] [105,102] = false /\ eqS [109,97,116,99,104] [109,97,116,99,104] = true /\ eqS [109,97,116,99,104] [100,101,102,101,114] = false /\ eqS [109,97,116,99,104] [119,104,105,108,101] = false /\ eqS [109,97,116,99,104] [114,101,116,117,114,110] = false /\ eqS [109,97,116,99,104] [116,104,114,111,119] = false /\ eqS [109,97,116,99,104] [100,111] = false /\ eqS [100,101,102,101,114] [108,101,116] = false /\ eqS [100,101,102,101,114] [118,97,114] = false /\ eqS [100,101,102,101,114] [105,102] = false /\ eqS [100,101,102,101,114] [109,97,116,99,104] = false /\ eqS [100,101,102,101,114] [100,101,102,101,114] = true /\ eqS [100,101,102,101,114] [119,104,105,108,101] = false /\ eqS [100,101,102,101,114] [114,101,116,117,114,110] = false /\ eqS [100,101,102,101,114] [116,104,114,111,119] = false /\ eqS [100,101,102,101,114] [100,111] = false /\ eqS [119,104,105,108,101] [108,101,116] = false /\ eqS [119,104,105,108,101] [118,97,114] = false /\ eqS [119,104,105,108,101] [105,102] = false /\ eqS [119,104,105,108,101] [109,97,116,99,104] = false /\ eqS [119,104,105,108,101] [100,101,102,101,114] = false /\ eqS [119,104,105,108,101] [119,104,105,108,101] = true /\ eqS [119,104,105,108,101] [114,101,116,117,114,110] = false /\ eqS [119,104,105,108,101] [116,104,114,111,119] = false /\ eqS [119,104,105,108,101] [100,111] = false /\ eqS [114,101,116,117,114,110] [108,101,116] = false /\ eqS [114,101,116,117,114,110] [118,97,114] = false /\ eqS [114,101,116,117,114,110] [105,102] = false /\ eqS [114,101,116,117,114,110] [109,97,116,99,104] = false /\ eqS [114,101,116,117,114,110] [100,101,102,101,114] = false /\ eqS [114,101,116,117,114,110] [119,104,105,108,101] = false /\ eqS [114,101,116,117,114,110] [114,101,116,117,114,110] = true /\ eqS [114,101,116,117,114,110] [116,104,114,111,119] = false /\ eqS [114,101,116,117,114,110] [100,111] = false /\ eqS [116,104,114,111,119] [108,101,116] = false /\ eqS [116,104,114,111,119] [118,97,114] = false /\ eqS [116,104,114,111,119] [105,102] = false /\ eqS [116,104,114,111,119] [109,97,116,99,104] = false /\ eqS [116,104,114,111,119] [100,101,102,101,114] = false /\ eqS [116,104,114,111,119] [119,104,105,108,101] = false /\ eqS [116,104,114,111,119] [114,101,116,117,114,110] = false /\ eqS [116,104,114,111,119] [116,104,114,111,119] = true /\ eqS [116,104,114,111,119] [100,111] = false /\ eqS [100,111] [108,101,116] = false /\ eqS [100,111] [118,97,114] = false /\ eqS [100,111] [105,102] = false /\ eqS [100,111] [109,97,116,99,104] = false /\ eqS [100,111] [100,101,102,101,114] = false /\ eqS [100,111] [119,104,105,108,101] = false /\ eqS [100,111] [114,101,116,117,114,110] = false /\ eqS [100,111] [116,104,114,111,119] = false /\ eqS [100,111] [100,111] = true:=by simp [eqS]
theorem stmt_at {N n n' k:Nat} (hN:24000 <= N) (hn:N + 17 <= n) (hn':N + 17 <= n') (hk:k <= l.length) (H:Hyp l size (k + 1) N) (E:∀ n n',N + 15 <= n -> N + 15 <= n' -> a3C l size k Nod.sz (G 0) ((j3.fs n).x9 l k size) ((d9.fs n').E5 l size k (-1))) :
    a3C l size k Nod.sz (G 1) ((j3.fs n).P5 l k size) ((d9.fs n').R5 l size k (-1)):=by
  have hl:=C.hl
  obtain ⟨n,rfl⟩:∃ q,n = q + 1:=⟨n - 1,by omega⟩
  obtain ⟨n',rfl⟩:∃ q,n' = q + 1:=⟨n' - 1,by omega⟩
  show a3C l size k Nod.sz (G 1) (J8 n (j3.fs n) l k size) (J6 n' (d9.fs n') l size k (-1))
  have word:∀ b,isK l 9 k = b -> ((D6 0 9 [] l k size).bind fun r4 =>
      cond r4 (
      (idx' l (k:Int)).bind fun x5 =>
      some x5.text) (
      some [])) = some (cond b (R4 l k) []):=by
    intro b hb
    rw [b53 C.hl hk size 9,hb]
    cases b
    · rfl
    · obtain ⟨_,t,t0,t1,_⟩:=kdt C hb
      simp only [Option.bind_some,cond_true,t0,t1]
  have fw:∀ w,isT l 9 w k = (isK l 9 k && eqS (R4 l k) w):=fun w=>b6l C 9 w k
  have dflt:∀ u:Str,isT l 9 [108,101,116] k = false -> isT l 9 [118,97,114] k = false -> isT l 9 [105,102] k = false -> isT l 9 [109,97,116,99,104] k = false -> isT l 9 [100,101,102,101,114] k = false -> isT l 9 [119,104,105,108,101] k = false -> isT l 9 [114,101,116,117,114,110] k = false -> isT l 9 [116,104,114,111,119] k = false -> isT l 9 [100,111] k = false -> eqS u [108,101,116] = false -> eqS u [118,97,114] = false -> eqS u [105,102] = false -> eqS u [109,97,116,99,104] = false -> eqS u [100,101,102,101,114] = false -> eqS u [119,104,105,108,101] = false -> eqS u [114,101,116,117,114,110] = false -> eqS u [116,104,114,111,119] = false -> eqS u [100,111] = false -> ((D6 0 9 [] l k size).bind fun r4 =>
      cond r4 (
      (idx' l (k:Int)).bind fun x5 =>
      some x5.text) (
      some [])) = some u -> a3C l size k Nod.sz (G 1) (J8 n (j3.fs n) l k size) (J6 n' (d9.fs n') l size k (-1)):=by
    intro u f0 f1 f2 f3 f4 f5 f6 f7 f8 g0 g1 g2 g3 g4 g5 g6 g7 g8 hu
    unfold J8 J6
    rw [hu]
    simp (disch:=omega) only [kyv C hk,nxv C hk,f0,f1,f2,f3,f4,f5,f6,f7,f8,g0,g1,g2,g3,g4,g5,g6,g7,g8,SSx C]
    obtain ⟨n1,rfl⟩:∃ q,n' = q + 1:=⟨n' - 1,by omega⟩
    have hsim:(d9.fs (n1 + 1)).a05 l size k (-1) = a1P n1 (d9.fs n1) l size k (-1):=rfl
    rw [hsim]
    unfold a1P
    rcases E n n1 (by omega) (by omega) with ⟨x,q,p1,p2,p3,p4,p5,p6⟩ | ⟨x,q,pl,f,p1,p2,p3,p4,p5⟩
    case inr =>
      simp (disch:=omega) only [p1,p2,SSx C]
      exact .inr ⟨_,q,pl,f,rfl,rfl,p3,p4,p5⟩
    have hx:=x.a2I
    simp (disch:=omega) only [p1,p2,SSx C]
    rcases sgx C p4 61 [] with ⟨b,hb,e1,e2,e3,e4,e5⟩ | ⟨b,e1,e2,e3,e4,e5⟩
    · simp (disch:=omega) only [e4,e5,e2,e3,SSx C]
      obtain ⟨pb,pb1,pb2⟩:=c1C p6 (n:=n) (n':=n1) (by omega) (by omega)
      rw [pb1,pb2]
      cases pb
      · simp (disch:=omega) only [SSx C]
        exact .inr ⟨_,q,x.at_,_,rfl,rfl,p3,p4,.inr ⟨p6.at,rfl⟩⟩
      · simp (disch:=omega) only [e2,SSx C]
        rcases H.expr (q + 1) n n1 (by omega) hb (by omega) (by omega) with ⟨y,q2,r1,r2,r3,r4,r5,r6⟩ | ⟨y,q2,pl,f,r1,r2,r3,r4,r5⟩
        case inr =>
          simp (disch:=omega) only [r1,r2,SSx C]
          exact .inr ⟨_,q2,pl,f,rfl,rfl,by omega,r4,r5⟩
        simp (disch:=omega) only [r1,r2,b6o x y (show 144 <= 1000 by omega),SSx C]
        rcases sgx C r4 59 [] with ⟨b,hs,e1,e2,e3,e4,e5⟩ | ⟨b,e1,e2,e3,e4,e5⟩
        · simp (disch:=omega) only [e2,e3,SSx C]
          exact .inl ⟨_,q2 + 1,rfl,rfl,by omega,hs,by simp only [szs]; omega,.assign p6.at p6 r6⟩
        · simp (disch:=omega) only [e2,e3,SSx C]
          exact .inr ⟨_,q2,-1,_,rfl,rfl,by omega,r4,a0E l size q2⟩
    · simp (disch:=omega) only [e4,e5,SSx C]
      rcases sgx C p4 59 [] with ⟨b,hs,e1,e2,e3,e4,e5⟩ | ⟨b,e1,e2,e3,e4,e5⟩
      · simp (disch:=omega) only [e2,e3,SSx C]
        exact .inl ⟨_,q + 1,rfl,rfl,by omega,hs,by simp only [szs]; omega,.sole p6.at p6⟩
      · simp (disch:=omega) only [e2,e3,SSx C]
        exact .inr ⟨_,q,-1,_,rfl,rfl,by omega,p4,a0E l size q⟩
  cases hK:isK l 9 k
  · refine dflt [] (by rw [fw,hK]; rfl) (by rw [fw,hK]; rfl) (by rw [fw,hK]; rfl) (by rw [fw,hK]; rfl) (by rw [fw,hK]; rfl) (by rw [fw,hK]; rfl) (by rw [fw,hK]; rfl) (by rw [fw,hK]; rfl) (by rw [fw,hK]; rfl) (by simp [eqS]) (by simp [eqS]) (by simp [eqS]) (by simp [eqS]) (by simp [eqS]) (by simp [eqS]) (by simp [eqS]) (by simp [eqS]) (by simp [eqS]) (word _ hK)
  by_cases hw:R4 l k = [108,101,116]
  · have hu:=word _ hK
    rw [cond_true,hw] at hu
    have hT:isT l 9 [108,101,116] k = true:=by rw [fw,hK,hw]; exact a2t _
    have hb:k + 1 <= l.length:=a6a hT
    unfold J8 J6
    rw [hu]
    simp (disch:=omega) only [kyv C hk,nxv C hk,fw,hK,hw,Bool.true_and,wq,SSx C]
    rcases b8c C (n:=n) (n':=n') hN (by omega) (by omega) hk H (.inl hT) with ⟨x,q,p1,p2,p3,p4,p5,p6⟩ | ⟨x,q,pl,f,p1,p2,p3,p4,p5⟩
    · simp only [p1,p2,R9,Option.bind_some]
      exact .inl ⟨x,q,rfl,rfl,p3,p4,p5,p6⟩
    · simp only [p1,p2,Q7,Option.bind_some]
      exact .inr ⟨x,q,pl,f,rfl,rfl,p3,p4,p5⟩
  have hw0:=hw
  clear hw
  by_cases hw:R4 l k = [118,97,114]
  · have hu:=word _ hK
    rw [cond_true,hw] at hu
    have hT:isT l 9 [118,97,114] k = true:=by rw [fw,hK,hw]; exact a2t _
    have hb:k + 1 <= l.length:=a6a hT
    unfold J8 J6
    rw [hu]
    simp (disch:=omega) only [kyv C hk,nxv C hk,fw,hK,hw,Bool.true_and,wq,SSx C]
    rcases b8c C (n:=n) (n':=n') hN (by omega) (by omega) hk H (.inr hT) with ⟨x,q,p1,p2,p3,p4,p5,p6⟩ | ⟨x,q,pl,f,p1,p2,p3,p4,p5⟩
    · simp only [p1,p2,R9,Option.bind_some]
      exact .inl ⟨x,q,rfl,rfl,p3,p4,p5,p6⟩
    · simp only [p1,p2,Q7,Option.bind_some]
      exact .inr ⟨x,q,pl,f,rfl,rfl,p3,p4,p5⟩
  have hw1:=hw
  clear hw
  by_cases hw:R4 l k = [105,102]
  · have hu:=word _ hK
    rw [cond_true,hw] at hu
    have hT:isT l 9 [105,102] k = true:=by rw [fw,hK,hw]; exact a2t _
    have hb:k + 1 <= l.length:=a6a hT
    unfold J8 J6
    rw [hu]
    simp (disch:=omega) only [kyv C hk,nxv C hk,fw,hK,hw,Bool.true_and,wq,SSx C]
    rcases if_at C (n:=n) (n':=n') hN (by omega) (by omega) hk H hT with ⟨x,q,p1,p2,p3,p4,p5,p6⟩ | ⟨x,q,pl,f,p1,p2,p3,p4,p5⟩
    · simp only [p1,p2,R9,Option.bind_some]
      exact .inl ⟨x,q,rfl,rfl,p3,p4,p5,p6.1⟩
    · simp only [p1,p2,Q7,Option.bind_some]
      exact .inr ⟨x,q,pl,f,rfl,rfl,p3,p4,p5⟩
  have hw2:=hw
  clear hw
  by_cases hw:R4 l k = [109,97,116,99,104]
  · have hu:=word _ hK
    rw [cond_true,hw] at hu
    have hT:isT l 9 [109,97,116,99,104] k = true:=by rw [fw,hK,hw]; exact a2t _
    have hb:k + 1 <= l.length:=a6a hT
    unfold J8 J6
    rw [hu]
    simp (disch:=omega) only [kyv C hk,nxv C hk,fw,hK,hw,Bool.true_and,wq,SSx C]
    rcases match_at C (n:=n) (n':=n') hN (by omega) (by omega) hk H hT with ⟨x,q,p1,p2,p3,p4,p5,p6⟩ | ⟨x,q,pl,f,p1,p2,p3,p4,p5⟩
    · rw [p2]
      simp only [p1,R9]
      exact .inl ⟨x,q,rfl,rfl,p3,p4,p5,p6⟩
    · rw [p2]
      simp only [p1,Q7]
      exact .inr ⟨x,q,pl,f,rfl,rfl,p3,p4,p5⟩
  have hw3:=hw
  clear hw
  by_cases hw:R4 l k = [100,101,102,101,114]
  · have hu:=word _ hK
    rw [cond_true,hw] at hu
    have hT:isT l 9 [100,101,102,101,114] k = true:=by rw [fw,hK,hw]; exact a2t _
    have hb:k + 1 <= l.length:=a6a hT
    unfold J8 J6
    rw [hu]
    simp (disch:=omega) only [kyv C hk,nxv C hk,fw,hK,hw,Bool.true_and,wq,SSx C]
    obtain ⟨n1,rfl⟩:∃ q,n = q + 1:=⟨n - 1,by omega⟩
    have hone:∀ op:Int,(j3.fs (n1 + 1)).Y3 op l k size = a1d n1 (j3.fs n1) op l k size:=fun _=>rfl
    simp only [hone,a1d,a8a C hk,Option.bind_some,a1E (show k <= 1000000 by omega)]
    rcases H.block (k + 1) n1 n' (Nat.le_refl _) hb (by omega) (by omega) with ⟨x,q,p1,p2,p3,p4,p5,p6⟩ | ⟨x,q,pl,f,p1,p2,p3,p4,p5⟩
    · simp only [p1,p2,R9,Option.bind_some]
      exact .inl ⟨_,q,rfl,rfl,by omega,p4,by simp only [szs]; omega,.defer (C.pos k) p6⟩
    · simp only [p1,p2,Q7,Option.bind_some]
      exact .inr ⟨_,q,pl,f,rfl,rfl,by omega,p4,p5⟩
  have hw4:=hw
  clear hw
  by_cases hw:R4 l k = [119,104,105,108,101]
  · have hu:=word _ hK
    rw [cond_true,hw] at hu
    have hT:isT l 9 [119,104,105,108,101] k = true:=by rw [fw,hK,hw]; exact a2t _
    have hb:k + 1 <= l.length:=a6a hT
    unfold J8 J6
    rw [hu]
    simp (disch:=omega) only [kyv C hk,nxv C hk,fw,hK,hw,Bool.true_and,wq,SSx C]
    rcases H.expr (k + 1) n n' (Nat.le_refl _) hb (by omega) (by omega) with ⟨x,q,p1,p2,p3,p4,p5,p6⟩ | ⟨x,q,pl,f,p1,p2,p3,p4,p5⟩
    case inr =>
      simp (disch:=omega) only [p1,p2,SSx C]
      exact .inr ⟨_,q,pl,f,rfl,rfl,by omega,p4,p5⟩
    have hx:=x.a2I
    simp (disch:=omega) only [p1,p2,SSx C]
    rcases H.block q n n' (by omega) p4 (by omega) (by omega) with ⟨y,q2,r1,r2,r3,r4,r5,r6⟩ | ⟨y,q2,pl,f,r1,r2,r3,r4,r5⟩
    · simp (disch:=omega) only [r1,r2,b6o x y (show 144 <= 1000 by omega),SSx C]
      exact .inl ⟨_,q2,rfl,rfl,by omega,r4,by simp only [szs]; omega,.whil (C.pos k) p6 r6⟩
    · simp (disch:=omega) only [r1,r2,SSx C]
      exact .inr ⟨_,q2,pl,f,rfl,rfl,by omega,r4,r5⟩
  have hw5:=hw
  clear hw
  by_cases hw:R4 l k = [114,101,116,117,114,110]
  · have hu:=word _ hK
    rw [cond_true,hw] at hu
    have hT:isT l 9 [114,101,116,117,114,110] k = true:=by rw [fw,hK,hw]; exact a2t _
    have hb:k + 1 <= l.length:=a6a hT
    unfold J8 J6
    rw [hu]
    simp (disch:=omega) only [kyv C hk,nxv C hk,fw,hK,hw,Bool.true_and,wq,SSx C]
    rcases sgx C hb 59 [] with ⟨b,hs,e1,e2,e3,e4,e5⟩ | ⟨b,e1,e2,e3,e4,e5⟩
    · simp (disch:=omega) only [e1,e2,SSx C]
      exact .inl ⟨_,k + 1 + 1,rfl,rfl,by omega,hs,by simp only [szs]; omega,.ret0 (C.pos k)⟩
    simp (disch:=omega) only [e1,e2,SSx C]
    rcases H.expr (k + 1) n n' (Nat.le_refl _) hb (by omega) (by omega) with ⟨x,q,p1,p2,p3,p4,p5,p6⟩ | ⟨x,q,pl,f,p1,p2,p3,p4,p5⟩
    case inr =>
      simp (disch:=omega) only [p1,p2,SSx C]
      exact .inr ⟨_,q,pl,f,rfl,rfl,by omega,p4,p5⟩
    simp (disch:=omega) only [p1,p2,SSx C]
    rcases sgx C p4 59 [] with ⟨b,hs,e1,e2,e3,e4,e5⟩ | ⟨b,e1,e2,e3,e4,e5⟩
    · simp (disch:=omega) only [e2,e3,SSx C]
      exact .inl ⟨_,q + 1,rfl,rfl,by omega,hs,by simp only [szs]; omega,.ret1 (C.pos k) p6⟩
    · simp (disch:=omega) only [e2,e3,SSx C]
      exact .inr ⟨_,q,-1,_,rfl,rfl,by omega,p4,a0E l size q⟩
  have hw6:=hw
  clear hw
  by_cases hw:R4 l k = [116,104,114,111,119]
  · have hu:=word _ hK
    rw [cond_true,hw] at hu
    have hT:isT l 9 [116,104,114,111,119] k = true:=by rw [fw,hK,hw]; exact a2t _
    have hb:k + 1 <= l.length:=a6a hT
    unfold J8 J6
    rw [hu]
    simp (disch:=omega) only [kyv C hk,nxv C hk,fw,hK,hw,Bool.true_and,wq,SSx C]
    rcases H.expr (k + 1) n n' (Nat.le_refl _) hb (by omega) (by omega) with ⟨x,q,p1,p2,p3,p4,p5,p6⟩ | ⟨x,q,pl,f,p1,p2,p3,p4,p5⟩
    case inr =>
      simp (disch:=omega) only [p1,p2,SSx C]
      exact .inr ⟨_,q,pl,f,rfl,rfl,by omega,p4,p5⟩
    simp (disch:=omega) only [p1,p2,SSx C]
    rcases sgx C p4 59 [] with ⟨b,hs,e1,e2,e3,e4,e5⟩ | ⟨b,e1,e2,e3,e4,e5⟩
    · simp (disch:=omega) only [e2,e3,SSx C]
      exact .inl ⟨_,q + 1,rfl,rfl,by omega,hs,by simp only [szs]; omega,.throws (C.pos k) p6⟩
    · simp (disch:=omega) only [e2,e3,SSx C]
      exact .inr ⟨_,q,-1,_,rfl,rfl,by omega,p4,a0E l size q⟩
  have hw7:=hw
  clear hw
  by_cases hw:R4 l k = [100,111]
  · have hu:=word _ hK
    rw [cond_true,hw] at hu
    have hT:isT l 9 [100,111] k = true:=by rw [fw,hK,hw]; exact a2t _
    have hb:k + 1 <= l.length:=a6a hT
    unfold J8 J6
    rw [hu]
    simp (disch:=omega) only [kyv C hk,nxv C hk,fw,hK,hw,Bool.true_and,wq,SSx C]
    obtain ⟨n1,rfl⟩:∃ q,n = q + 1:=⟨n - 1,by omega⟩
    have hone:∀ op:Int,(j3.fs (n1 + 1)).Y3 op l k size = a1d n1 (j3.fs n1) op l k size:=fun _=>rfl
    simp only [hone,a1d,a8a C hk,Option.bind_some,a1E (show k <= 1000000 by omega)]
    rcases H.block (k + 1) n1 n' (Nat.le_refl _) hb (by omega) (by omega) with ⟨x,q,p1,p2,p3,p4,p5,p6⟩ | ⟨x,q,pl,f,p1,p2,p3,p4,p5⟩
    case inr =>
      simp (disch:=omega) only [p1,p2,SSx C]
      exact .inr ⟨_,q,pl,f,rfl,rfl,by omega,p4,p5⟩
    have hx:=x.a2I
    simp (disch:=omega) only [p1,p2,SSx C]
    rcases kyx C p4 99 [97,116,99,104] with ⟨b,hs,e1,e2,e3,e4,e5⟩ | ⟨b,e1,e2,e3,e4,e5⟩
    case inr =>
      simp (disch:=omega) only [e2,e3,SSx C]
      exact .inr ⟨_,q,-1,_,rfl,rfl,by omega,p4,a0E l size q⟩
    simp (disch:=omega) only [e2,e3,SSx C]
    rcases nmx C hs with ⟨c,hc,e1,e2,e3⟩ | ⟨c,e1,e2,e3⟩
    case inr =>
      simp (disch:=omega) only [e1,e2,SSx C]
      exact .inr ⟨_,q + 1,-1,_,rfl,rfl,by omega,hs,a0E l size (q + 1)⟩
    simp (disch:=omega) only [e1,e2,SSx C]
    rcases H.block (q + 1 + 1) (n1 + 1) n' (by omega) hc (by omega) (by omega) with ⟨y,q2,r1,r2,r3,r4,r5,r6⟩ | ⟨y,q2,pl,f,r1,r2,r3,r4,r5⟩
    · simp (disch:=omega) only [r1,r2,b6o x y (show 144 <= 1000 by omega),SSx C]
      exact .inl ⟨_,q2,rfl,rfl,by omega,r4,by simp only [szs]; omega,.doc (C.pos k) p6 r6⟩
    · simp (disch:=omega) only [r1,r2,SSx C]
      exact .inr ⟨_,q2,pl,f,rfl,rfl,by omega,r4,r5⟩
  have hw8:=hw
  clear hw
  exact dflt (R4 l k) (by rw [fw,hK]; simp [eqS,hw0]) (by rw [fw,hK]; simp [eqS,hw1]) (by rw [fw,hK]; simp [eqS,hw2]) (by rw [fw,hK]; simp [eqS,hw3]) (by rw [fw,hK]; simp [eqS,hw4]) (by rw [fw,hK]; simp [eqS,hw5]) (by rw [fw,hK]; simp [eqS,hw6]) (by rw [fw,hK]; simp [eqS,hw7]) (by rw [fw,hK]; simp [eqS,hw8]) (by simp [eqS,hw0]) (by simp [eqS,hw1]) (by simp [eqS,hw2]) (by simp [eqS,hw3]) (by simp [eqS,hw4]) (by simp [eqS,hw5]) (by simp [eqS,hw6]) (by simp [eqS,hw7]) (by simp [eqS,hw8]) (word _ hK)
theorem b58 {N M n n' k0:Nat} (hN:24000 <= N) (hn:M <= n) (hn':M <= n') (hM:N <= M) (Q:∀ k n n',k0 <= k -> k <= l.length -> M <= n -> M <= n' -> a3C l size k Nod.sz (G 1) ((j3.fs n).P5 l k size) ((d9.fs n').R5 l size k (-1))):∀ (m m' k:Nat) (xs:List Nod),k0 <= k -> k <= l.length -> l.length - k < m -> l.length - k < m' -> szN xs + 4 * k0 <= 4 * k -> (∀ x ∈ xs,G 1 x) ->
  (∃ (q:Nat) (ys:List Nod),X4 n (j3.fs n) size l m xs k = some (.brk (ys,(q:Int))) /\ X5 n' (d9.fs n') size l m' xs k (-1) = some (.brk (ys,(q:Int),-1)) /\ k <= q /\ q <= l.length /\ szN ys + 4 * k0 + 4 <= 4 * q /\ ∀ x ∈ ys,G 1 x) ∨
  (∃ (q:Nat) (y:List Nod) (pl:Int) (f:o7),X4 n (j3.fs n) size l m xs k = some (.out (.pan (f,(q:Int)))) /\ X5 n' (d9.fs n') size l m' xs k (-1) = some (.out (y,false,(q:Int),pl)) /\ k <= q /\ q <= l.length /\ a4x l size q pl f)
 | 0,m',k,xs,h1,h2,h3,h4,h5,h6=>by omega
 | m + 1,0,k,xs,h1,h2,h3,h4,h5,h6=>by omega
 | m + 1,m' + 1,k,xs,h1,h2,h3,h4,h5,h6=>by
  have hl:=C.hl
  have hlen:=a4w xs
  rw [X4.eq_2,X5.eq_2]
  rcases sgx C h2 125 [] with ⟨b,hb,e1,e2,e3,e4,e5⟩ | ⟨b,e1,e2,e3,e4,e5⟩
  ·rw [e1,e2]
   exact .inl ⟨k + 1,xs,rfl,rfl,by omega,hb,by omega,h6⟩
  ·rw [e1,e2]
   simp only [Option.bind_some,Bool.not_false,cond_true]
   rcases Q k n n' h1 h2 hn hn' with ⟨x,q,p1,p2,p3,p4,p5,p6⟩ | ⟨x,q,pl,f,p1,p2,p3,p4,p5⟩
   ·have a1:app 144 xs [x] = some (xs ++ [x]):=a6N (by omega) (by simp) (by omega)
    have hx:=x.a2I
    simp only [p1,p2,a1,R9,Option.bind_some,Bool.not_true,cond_false]
    rcases b58 hN hn hn' hM Q m m' q (xs ++ [x]) (by omega) p4 (by omega) (by omega) (by simp only [szs]; omega) (a5r h6 (a4A p6)) with ⟨q',ys,y1,y2,y3,y4,y5,y6⟩ | ⟨q',y,pl,f,y1,y2,y3,y4,y5⟩
    ·exact .inl ⟨q',ys,y1,y2,by omega,y4,y5,y6⟩
    ·exact .inr ⟨q',y,pl,f,y1,y2,by omega,y4,y5⟩
   ·simp only [p1,p2,Q7,Option.bind_some,Bool.not_false,cond_true]
    exact .inr ⟨q,_,pl,f,rfl,rfl,by omega,p4,p5⟩
theorem stmts_at {N M n n' k:Nat} (hN:24000 <= N) (hn:M + 1 <= n) (hn':M + 1 <= n') (hM:N <= M) (hk:k <= l.length) (Q:∀ q n n',k <= q -> q <= l.length -> M <= n -> M <= n' -> a3C l size q Nod.sz (G 1) ((j3.fs n).P5 l q size) ((d9.fs n').R5 l size q (-1))) :
  a3C l size k (fun x=>szN x + 4) (fun x=>∀ y ∈ x,G 1 y) ((j3.fs n).O5 l k size) ((d9.fs n').S9 l size k (-1)):=by
 have hl:=C.hl
 obtain ⟨n,rfl⟩:∃ q,n = q + 1:=⟨n - 1,by omega⟩
 obtain ⟨n',rfl⟩:∃ q,n' = q + 1:=⟨n' - 1,by omega⟩
 show a3C l size k _ _ (a00 n (j3.fs n) l k size) (a0Y n' (d9.fs n') l size k (-1))
 unfold a00 a0Y
 rcases b58 C (n:=n) (n':=n') (k0:=k) hN (by omega) (by omega) hM Q n n' k [] (Nat.le_refl _) hk (by omega) (by omega) (by simp only [szs]; omega) all_nil with ⟨q',ys,y1,y2,y3,y4,y5,y6⟩ | ⟨q',y,pl,f,y1,y2,y3,y4,y5⟩
 ·rw [y1,y2]
  exact .inl ⟨ys,q',rfl,rfl,y3,y4,(by show szN ys + 4 + 4 * k <= 4 * q'; omega),y6⟩
 ·rw [y1,y2]
  exact .inr ⟨_,q',pl,f,rfl,rfl,y3,y4,y5⟩
theorem hyp_step {N k:Nat} (hN:24000 <= N) (H:Hyp l size (k + 1) N):Hyp l size k (N + 20):=by
 have U:∀ n n',k <= l.length -> N + 4 <= n -> N + 4 <= n' -> a3C l size k Nod.sz (G 0) ((j3.fs n).I4 l k size) ((d9.fs n').M8 l size k (-1)):=fun n n' hk h1 h2=>unary_at C hN h1 h2 hk H
 have L:∀ j n n',k <= l.length -> j <= 5 -> N + 5 <= n -> N + 10 <= n' -> b8w l size j k n n':=fun j n n' hk hj h1 h2=>lev_at C hN (by omega) h2 hk H hj fun n' h3=>U n n' hk (by omega) h3
 have E:∀ n n',k <= l.length -> N + 15 <= n -> N + 15 <= n' -> a3C l size k Nod.sz (G 0) ((j3.fs n).x9 l k size) ((d9.fs n').E5 l size k (-1)):=fun n n' hk h1 h2=>expr_at C (N:=N + 4) (by omega) (by omega) fun n n' h3 h4=>L 0 n n' hk (by omega) (by omega) (by omega)
 have Q:∀ n n',k <= l.length -> N + 17 <= n -> N + 17 <= n' -> a3C l size k Nod.sz (G 1) ((j3.fs n).P5 l k size) ((d9.fs n').R5 l size k (-1)):=fun n n' hk h1 h2=>stmt_at C hN h1 h2 hk H fun n n'=>E n n' hk
 have cut:∀ {q:Nat},k <= q -> q = k ∨ k + 1 <= q:=fun h=>by omega
 refine ⟨fun q n n' h hk h1 h2=>?_,fun q n n' h hk h1 h2=>?_,fun j q n n' hj h hk h1 h2=>?_,fun m0 q n n' hm h hk h1 h2=>?_,fun q n n' h hk h1 h2=>?_,fun q n n' h hk h1 h2=>?_,fun q n n' h hk h1 h2=>?_,fun q n n' hi h hk h1 h2=>?_⟩
 ·rcases cut h with rfl | h
  ·exact E n n' hk (by omega) (by omega)
  ·exact H.expr q n n' h hk (by omega) (by omega)
 ·rcases cut h with rfl | h
  ·exact U n n' hk (by omega) (by omega)
  ·exact H.unary q n n' h hk (by omega) (by omega)
 ·rcases cut h with rfl | h
  ·exact L j n n' hk hj (by omega) (by omega)
  ·exact H.lev j q n n' hj h hk (by omega) (by omega)
 ·rcases cut h with rfl | h
  ·exact args_at C hN (by omega) (by omega) hk H hm
  ·exact H.args m0 q n n' hm h hk (by omega) (by omega)
 ·rcases cut h with rfl | h
  ·refine stmts_at C (M:=N + 17) hN (by omega) (by omega) (by omega) hk fun r n n' g gk g1 g2=>?_
   rcases cut g with rfl | g
   ·exact Q n n' gk g1 g2
   ·exact H.stmt r n n' g gk (by omega) (by omega)
  ·exact H.stmts q n n' h hk (by omega) (by omega)
 ·rcases cut h with rfl | h
  ·exact Q n n' hk (by omega) (by omega)
  ·exact H.stmt q n n' h hk (by omega) (by omega)
 ·rcases cut h with rfl | h
  ·exact block_at C hN (by omega) (by omega) hk H
  ·exact H.block q n n' h hk (by omega) (by omega)
 ·rcases cut h with rfl | h
  ·exact if_at C hN (by omega) (by omega) hk H hi
  ·exact H.iff q n n' hi h hk (by omega) (by omega)
theorem c0q:∀ (R k:Nat),l.length < k + R -> Hyp l size k (24000 + 20 * R)
 | 0,k,h=>⟨fun q n n' h1 hk=>by omega,fun q n n' h1 hk=>by omega,fun j q n n' hj h1 hk=>by omega,fun m0 q n n' hm h1 hk=>by omega,fun q n n' h1 hk=>by omega,fun q n n' h1 hk=>by omega,fun q n n' h1 hk=>by omega,fun q n n' hi h1 hk=>by omega⟩
 | R + 1,k,h=>by
  have:=hyp_step C (N:=24000 + 20 * R) (by omega) (c0q R (k + 1) (by omega))
  exact this
theorem hyp0:Hyp l size 0 90000:=by
 have hl:=C.hl
 have H:=c0q C 3001 0 (by omega)
 exact ⟨fun k n n' h hk h1 h2=>H.expr k n n' h hk (by omega) (by omega),fun k n n' h hk h1 h2=>H.unary k n n' h hk (by omega) (by omega),fun j k n n' hj h hk h1 h2=>H.lev j k n n' hj h hk (by omega) (by omega),fun m0 k n n' hm h hk h1 h2=>H.args m0 k n n' hm h hk (by omega) (by omega),fun k n n' h hk h1 h2=>H.stmts k n n' h hk (by omega) (by omega),fun k n n' h hk h1 h2=>H.stmt k n n' h hk (by omega) (by omega),fun k n n' h hk h1 h2=>H.block k n n' h hk (by omega) (by omega),fun k n n' hi h hk h1 h2=>H.iff k n n' hi h hk (by omega) (by omega)⟩
end
end Go.Proofs.YtmonfppdiehlpaaGreatDoor
namespace Go.Proofs.YtmonfppdiehlpaaGreatDoor
open Go Go.Vm
theorem idxS_ok {s:Str} {i:Nat} (h:i < s.length):idxS s (i:Int) = some ((s[i]).toNat:Int):=by
 have h1:inR (i:Int) s.length = true:=by simp [inR,h]
 simp [idxS,h1,h]
theorem wrap8 {a:Int} (h1:0 <= a) (h2:a <= 255):IntKind.wrap .u8 a = a:=by
 simp only [IntKind.wrap,IntKind.bits,IntKind.signed]
 simp
 omega
theorem b8E {n:Nat} {s:Str} (hb:b3G s = true) (hm:a5m s 0 <= 9223372036854775807) (hlen:s.length <= 100):∀ (m i acc:Nat),i <= s.length -> s.length - i < m -> a5m (s.drop i) acc = a5m s 0 -> a1L n s m (acc:Int) (i:Int) = some ((a5m s 0:Nat):Int)
 | 0,i,acc,h1,h2,h3=>by omega
 | m + 1,i,acc,h1,h2,h3=>by
  simp only [a1L]
  rcases Nat.lt_or_ge i s.length with h | h
  ·rw [List.drop_eq_getElem_cons h,a5e] at h3
   have hd:48 <= (s[i]).toNat /\ (s[i]).toNat <= 57:=by
    simp only [b3G,List.all_eq_true,Bool.and_eq_true,Nat.ble_eq] at hb
    exact hb _ (List.getElem_mem h)
   have hg:=b74 (s.drop (i + 1)) (acc * 10 + ((s[i]).toNat - 48))
   rw [a7j (by omega),cond_true,idxS_ok h,Option.bind_some,a5V (a:=(acc:Int) * 10) (by omega) (by omega),wrap8 (by omega) (by omega),a5V (a:=((s[i]).toNat:Int) - 48) (by omega) (by omega),a5V (a:=(acc:Int) * 10 + _) (by omega) (by omega),a1E (by omega)]
   rw [show (acc:Int) * 10 + (((s[i]).toNat:Int) - 48) = ((acc * 10 + ((s[i]).toNat - 48):Nat):Int) from by omega]
   exact b8E hb hm hlen m (i + 1) _ h (by omega) h3
  ·rw [a7S (by omega),cond_false]
   rw [List.drop_eq_nil_of_le h] at h3
   have h3:acc = a5m s 0:=h3
   rw [h3]
theorem num_ok {n:Nat} {s:Str} (h:digB s = true) (hn:100 <= n):a1F n s = some ((a5m s 0:Nat):Int):=by
 simp only [digB,Bool.and_eq_true,Nat.ble_eq] at h
 obtain ⟨h1,h2,h3,h4⟩:=h
 unfold a1F
 have:=b8E (n:=n) h1 h4 (by omega) n 0 0 (Nat.zero_le _) (by omega) rfl
 have this:a1L n s n 0 0 = some ((a5m s 0:Nat):Int):=this
 rw [this]; rfl
theorem cx_ok (s:Str):Cx (a9F (Sc.a4F s)) (List.length s:Int):=by
 refine ⟨tokL_len s,fun k=>?_,fun k hk=>?_⟩
 ·unfold O1
  cases h:(a9F (Sc.a4F s))[k]? with
  | none=>show (0:Int) <= (List.length s:Int); omega
  | some t =>
   show 0 <= t.at_
   cases hr:Sc.a4F s with
   | done l =>
    rw [hr] at h
    simp only [a9F,List.getElem?_map] at h
    cases hq:l[k]? with
    | none=>rw [hq] at h; cases h
    | some u=>rw [hq] at h; cases h; show (0:Int) <= ((u.a:Nat):Int); omega
   | _=>rw [hr] at h; simp [a9F] at h
 ·unfold isK at hk
  unfold R4
  cases h:(a9F (Sc.a4F s))[k]? with
  | none=>rw [h] at hk; cases hk
  | some t =>
   rw [h] at hk
   have hk:t.kind = 3:=by simpa [eqB] using hk
   cases hr:Sc.a4F s with
   | done l =>
    rw [hr] at h
    simp only [a9F,List.getElem?_map] at h
    cases hq:l[k]? with
    | none=>rw [hq] at h; cases h
    | some u =>
     rw [hq] at h; cases h
     have hb:=Sc.int_digB (Sc.tok_int hr u (List.mem_of_getElem? hq) hk)
     exact ⟨(a5m u.t 0:Nat),by omega,by show atoi u.t = _; unfold atoi; rw [hb],fun n hn=>num_ok hb (by omega)⟩
   | _=>rw [hr] at h; simp [a9F] at h
theorem c0m {n:Nat} {x:Nod} {Φ:Y7} {Ψ:Y6} (hlen:x.l.length <= 100000) (hΦ:∀ y ∈ x.l,∃ r,Φ.a2V y = some r /\ Ψ.a2N y = some r) :
  ∀ (m i:Nat) (a b:Int),i <= x.l.length -> x.l.length - i < m -> ∃ r,a2L n Φ x m a b (i:Int) = some r /\ a2M n Ψ x m a b (i:Int) = some r
 | 0,i,a,b,h1,h2=>by omega
 | m + 1,i,a,b,h1,h2=>by
  simp only [a2L,a2M]
  by_cases hi:i < x.l.length
  ·rw [a7j (by omega),cond_true,cond_true,a4a hi,Option.bind_some,Option.bind_some]
   obtain ⟨⟨r1,r2⟩,g1,g2⟩:=hΦ x.l[i] (List.getElem_mem hi)
   rw [g1,g2,Option.bind_some,Option.bind_some]
   simp only
   rw [a5V (a:=(i:Int) + 1) (by omega) (by omega)]
   exact c0m hlen hΦ m (i + 1) _ _ hi (by omega)
  ·rw [a7S (by omega),cond_false,cond_false]
   exact ⟨(a,b),rfl,rfl⟩
theorem sz_ok:∀ (k:Nat) (x:Nod) (n:Nat),x.sz <= k -> x.sz <= 100000 -> x.sz + 1 <= n -> ∃ r,a2V n x = some r /\ a2N n x = some r
 | 0,x,n,h1,h2,h3=>by have:=x.a2I; omega
 | k + 1,x,0,h1,h2,h3=>by omega
 | k + 1,x,n + 1,h1,h2,h3=>by
  have hs:=x.a2I
  have hl:=a4w x.l
  show ∃ r,a5s n (Y7.fs n) x = some r /\ a5M n (Y6.fs n) x = some r
  unfold a5s a5M
  obtain ⟨⟨r1,r2⟩,g1,g2⟩:=c0m (n:=n) (x:=x) (Φ:=Y7.fs n) (Ψ:=Y6.fs n) (by omega) (fun y hy=>sz_ok k y n (by have:=a9N hy; omega) (by have:=a9N hy; omega) (by have:=a9N hy; omega)) n 0 1 0 (Nat.zero_le _) (by omega)
  have g1:a2L n (Y7.fs n) x n 1 0 0 = some (r1,r2):=g1
  have g2:a2M n (Y6.fs n) x n 1 0 0 = some (r1,r2):=g2
  rw [g1,g2]
  exact ⟨_,rfl,rfl⟩
theorem Typ.sz_pos (x:Typ):1 <= x.sz:=by rw [x.a2I]; omega
theorem c0w {n:Nat} {l:List Typ} {Φ:K5} (hlen:l.length <= 100000) (hΦ:∀ y ∈ l,Φ.a0C y y = some true):∀ (m i:Nat),i <= l.length -> l.length - i < m -> a1U n Φ l l m (i:Int) = some (.brk ())
 | 0,i,h1,h2=>by omega
 | m + 1,i,h1,h2=>by
  simp only [a1U]
  by_cases hi:i < l.length
  ·rw [a7j (by omega),cond_true,a4a hi,Option.bind_some,Option.bind_some,hΦ _ (List.getElem_mem hi),Option.bind_some]
   simp only [Bool.not_true,cond_false]
   rw [a5V (by omega) (by omega)]
   exact c0w hlen hΦ m (i + 1) hi (by omega)
  ·rw [a7S (by omega),cond_false]
theorem ets_ok {l:List Typ} {n:Nat} (hlen:l.length <= 100000) (hn:l.length + 1 <= n) (hΦ:∀ y ∈ l,(K5.fs n).a0C y y = some true):(K5.fs (n + 1)).a0s l l = some true:=by
 show a3V n (K5.fs n) l l = some true
 unfold a3V
 rw [a4j rfl]
 simp only [Bool.not_true,cond_false]
 have h:a1U n (K5.fs n) l l n 0 = some (.brk ()):=c0w hlen hΦ n 0 (Nat.zero_le _) (by omega)
 rw [h]; rfl
theorem et_ok:∀ (k:Nat) (t:Typ) (n:Nat),t.sz <= k -> t.sz <= 100000 -> 2 * t.sz + 1 <= n -> (K5.fs n).a0C t t = some true
 | 0,t,n,h1,h2,h3=>by have:=t.sz_pos; omega
 | k + 1,t,0,h1,h2,h3=>by omega
 | k + 1,t,1,h1,h2,h3=>by have:=t.sz_pos; omega
 | k + 1,t,n + 2,h1,h2,h3=>by
  have hs:=t.a2I
  have hl:=b2F t.args
  show a4o (n + 1) (K5.fs (n + 1)) t t = some true
  unfold a4o
  rw [a4j rfl,a2t,a4j rfl,cond_true,cond_true,cond_true,ets_ok (by omega) (by omega) (fun y hy=>et_ok k y n (by have:=b1y hy; omega) (by have:=b1y hy; omega) (by have:=b1y hy; omega))]
  rfl
theorem ets_all {l:List Typ} {n:Nat} (hf:szT l <= 100000) (hn:2 * szT l + 2 <= n):(K5.fs n).a0s l l = some true:=by
 have hl:=b2F l
 cases n with
 | zero=>omega
 | succ n=>exact ets_ok (by omega) (by omega) (fun y hy=>et_ok y.sz y n (Nat.le_refl _) (by have:=b1y hy; omega) (by have:=b1y hy; omega))
theorem c0r {n:Nat} {l:List Nod} {Φ:M0} (hlen:l.length <= 100000) (hΦ:∀ y ∈ l,Φ.a1c y y true = some true):∀ (m i:Nat),i <= l.length -> l.length - i < m -> a1V n Φ l true l m (i:Int) = some (.brk ())
 | 0,i,h1,h2=>by omega
 | m + 1,i,h1,h2=>by
  simp only [a1V]
  by_cases hi:i < l.length
  ·rw [a7j (by omega),cond_true,a4a hi,Option.bind_some,Option.bind_some,hΦ _ (List.getElem_mem hi),Option.bind_some]
   simp only [Bool.not_true,cond_false]
   rw [a5V (by omega) (by omega)]
   exact c0r hlen hΦ m (i + 1) hi (by omega)
  ·rw [a7S (by omega),cond_false]
theorem en_ok:∀ (k:Nat) (x:Nod) (n:Nat),x.sz <= k -> x.sz <= 100000 -> 2 * x.sz + 2 <= n -> (M0.fs n).a1c x x true = some true
 | 0,x,n,h1,h2,h3=>by have:=x.a2I; omega
 | k + 1,x,0,h1,h2,h3=>by omega
 | k + 1,x,1,h1,h2,h3=>by omega
 | k + 1,x,n + 2,h1,h2,h3=>by
  have hs:=x.a2I
  have hl:=a4w x.l
  show a4p (n + 1) (M0.fs (n + 1)) x x true = some true
  unfold a4p
  have e1:a0C (n + 1) x.t x.t = some true:=et_ok x.t.sz x.t (n + 1) (Nat.le_refl _) (by omega) (by omega)
  have e2:a0s (n + 1) x.ts x.ts = some true:=ets_all (by omega) (by omega)
  have e3:(M0.fs (n + 1)).a3v x.l x.l true = some true:=by
   show a3T n (M0.fs n) x.l x.l true = some true
   unfold a3T
   rw [a4j rfl]
   simp only [Bool.not_true,cond_false]
   have h:a1V n (M0.fs n) x.l true x.l n 0 = some (.brk ()):=c0r (by omega) (fun y hy=>en_ok k y n (by have:=a9N hy; omega) (by have:=a9N hy; omega) (by have:=a9N hy; omega)) n 0 (Nat.zero_le _) (by omega)
   rw [h]; rfl
  rw [a4j rfl,a2t,a4j rfl,a4j rfl]
  simp only [Bool.not_true,cond_false,cond_true]
  rw [e1,Option.bind_some]
  simp only [Bool.not_true,cond_false]
  rw [e2,Option.bind_some]
  simp only [Bool.not_true,Option.bind_some,cond_false]
  rw [e3]; rfl
theorem eq_self {n:Nat} {x:Nod} (h:x.sz <= 40000) (hn:90000 <= n):a1c n x x true = some true:=en_ok x.sz x n (Nat.le_refl _) (by omega) (by omega)
theorem c1s {n:Nat} (hn:90000 <= n) (s:Str):∃ (x:Nod) (f:Flt),a7w n s = some (x,f) /\ a7s n s = some (x,f) /\ x.sz <= 40000 /\ (f.code = 0 -> G 0 x):=by
 have hs:a92 s = some (a9F (Sc.a4F s),b2Z (Sc.a4F s),tokA (Sc.a4F s)):=rfl
 have C:=cx_ok s
 have hz:(⟨0,[],0,(⟨0,[],0,[]⟩:Typ),[],[],0⟩:Nod).sz <= 40000:=by simp only [nsz,tsz,a7e,a6X]; omega
 unfold a7w a7s a8d
 rw [hs]
 simp only [Option.bind_some]
 rcases tok_code s with ⟨h1,h2⟩ | ⟨h1,h2⟩
 ·rw [h1,h2]
  generalize hL:a9F (Sc.a4F s) = l at C
  have hl:=C.hl
  rw [a4j (a:=(0:Int)) rfl]
  simp only [Bool.and_self,Bool.not_true,cond_false]
  unfold a3g a6h
  rcases (hyp0 C).expr 0 n n (Nat.le_refl _) (Nat.zero_le _) hn hn with ⟨x,q,a,b,g1,g2,g3,g4⟩ | ⟨x,q,pl,f,a,b,g1,g2,g3⟩
  ·have a:x9 n l 0 (List.length s:Int) = some (.ok (x,(q:Int))):=a
   have b:E5 n l (List.length s:Int) 0 (-1) = some (x,true,(q:Int),-1):=b
   rw [a,b]
   simp only [R9,Option.bind_some,Bool.not_true,cond_false]
   rcases Nat.lt_or_ge q l.length with h3 | h3
   ·rw [a7j (by omega),cond_true,cond_true,b2B hl g2,a4Y hl g2]
    simp only [Q7,Option.bind_some]
    rw [show eqB 20 0 = false from a6Q (by decide)]
    exact ⟨_,_,rfl,rfl,hz,fun h=>by cases h⟩
   ·rw [a7S (by omega),cond_false,cond_false]
    simp only [R9,Option.bind_some]
    rw [show eqB (0:Int) 0 = true from a4j rfl]
    simp only [Bool.and_self,Bool.not_true,cond_false]
    obtain ⟨⟨r1,r2⟩,y1,y2⟩:=sz_ok x.sz x n (Nat.le_refl _) (by omega) (by omega)
    simp only [y1,y2,Option.bind_some]
    cases ltB 40 r2
    ·simp only [cond_false]
     cases ltB 4000 r1
     ·exact ⟨_,_,rfl,rfl,by omega,fun _=>g4⟩
     ·exact ⟨_,_,rfl,rfl,hz,fun h=>by cases h⟩
    ·exact ⟨_,_,rfl,rfl,hz,fun h=>by cases h⟩
  ·have a:x9 n l 0 (List.length s:Int) = some (.pan (f,(q:Int))):=a
   have b:E5 n l (List.length s:Int) 0 (-1) = some (x,false,(q:Int),pl):=b
   rw [a,b]
   simp only [Q7,Option.bind_some,Bool.not_false,cond_true]
   rcases g3 with ⟨h3,h4⟩ | ⟨h3,h4⟩
   ·rw [h3,h4,leB_f (by decide)]
    simp only [cond_false,cond_true,Option.bind_some]
    rw [a4Y hl g2,show eqB 20 0 = false from a6Q (by decide)]
    exact ⟨_,_,rfl,rfl,hz,fun h=>by cases h⟩
   ·rw [h4,leB_t h3]
    simp only [cond_true]
    rw [show eqB 22 0 = false from a6Q (by decide)]
    exact ⟨_,_,rfl,rfl,hz,fun h=>by cases h⟩
 ·rw [a6Q h1]
  exact ⟨_,_,rfl,rfl,hz,fun h=>absurd h h1⟩
theorem b9u {n:Nat} (hn:90000 <= n) (s:Str):a4y n s = some true:=by
 unfold a4y a9z
 rw [Option.bind_some]
 cases h:ltB 8200 (List.length s:Int) with
 | true=>rfl
 | false =>
  rw [cond_false]
  obtain ⟨t,f,h1,h2,h3,_⟩:=c1s hn s
  rw [h1,h2]
  simp only [Option.bind_some]
  rw [a4j rfl,a4j rfl]
  simp only [Bool.and_self,cond_true]
  rw [eq_self h3 hn]
  rfl
end Go.Proofs.YtmonfppdiehlpaaGreatDoor
namespace Go.Proofs.YtmonfppdiehlpaaGreatDoor
open Go Go.Vm
theorem cell_lt {w:World} {b o:Nat} {x:Value} (h:w.cell? ⟨b,o,none⟩ = some x):b < w.heap.size:=a1m h
theorem b91 (b o:Nat) (x y:Int) (fa fb:Int) (u:Value) (older:List PanicEntry) (w:World) (h0:w.cell? ⟨b,o,none⟩ = some (.int .i64 x)) (h1:w.cell? ⟨b,o + 1,none⟩ = some (.int .i64 y)) (z0:w.frozen? ⟨b,o,none⟩ = false) (z1:w.frozen? ⟨b,o + 1,none⟩ = false) :
  CallsD Tryz.prog 82 #[.pointer (some ⟨b,o,none⟩)] (.panicking ({ v:=.iface 110 (.agg #[.int .i64 fa,.int .i64 fb]),recovered:=false } :: older)) w fun e u' w' =>
   e = .returned (.tuple #[]) /\ u' = .panicking ({ v:=.iface 110 (.agg #[.int .i64 fa,.int .i64 fb]),recovered:=true } :: older) /\
   w' = ((w.setCell ⟨b,o,none⟩ (.int .i64 fa)).setCell ⟨b,o + 1,none⟩ (.int .i64 fb)).alloc (.cells #[.int .i64 fa,.int .i64 fb] 110):=by
 refine callsD_of_wpS Tryz.func82 rfl fun c₀ cs hu=>?_
 apply wpS_seq
 apply wpS_region
 simp [wpOpsS,go_sem,recoverD,hu,Tryz.ntmps82,Exit.thenS]
 refine wpS_of_wp ?_
 go_wp2
 have hta:(Instr.typeAssert (.iface 110 (.agg #[.int .i64 fa,.int .i64 fb])) 20 110 true).run Tryz.prog w = .ok (.tuple #[.agg #[.int .i64 fa,.int .i64 fb],.bool true]) w:=by
  simp only [Instr.typeAssert,Sem.run_bind,run_underlying Tryz.underlying110,Result.andThen_ok]
  simp
 rw [hta]
 simp only [Result.andThen]
 rw [Oper.upon_value]
 have hb:=cell_lt h0
 have G:a1i w (w.alloc (.cells #[.int .i64 fa,.int .i64 fb] 110)):=a1i.push w _
 have a0:=(G.cell hb o).trans h0
 have a1:=(G.cell hb (o + 1)).trans h1
 have y0:=(G.frozen hb o).trans z0
 have y1:=(G.frozen hb (o + 1)).trans z1
 unfold cellAt at a0 a1
 have a2:((w.alloc (.cells #[.int .i64 fa,.int .i64 fb] 110)).setCell ⟨b,o,none⟩ (.int .i64 fa)).cell? ⟨b,o + 1,none⟩ = some (.int .i64 y):=(World.cell?_setCell_other _ _ _ _ (by simp)).trans a1
 have y2:((w.alloc (.cells #[.int .i64 fa,.int .i64 fb] 110)).setCell ⟨b,o,none⟩ (.int .i64 fa)).frozen? ⟨b,o + 1,none⟩ = false:=by simp [y1]
 go_wp2
 obtain ⟨a₀,b₀,e₀,d₀,f₀,g₀,h₀⟩:=c₀
 subst hu
 simp [bodyPostS,results,Tryz.results82]
theorem b95 (p:Addr) (w:World) :
  CallsD Tryz.prog 82 #[.pointer (some p)] .returning w fun e u' w'=>e = .returned (.tuple #[]) /\ u' = .returning /\ w' = w:=by
 refine callsD_of_wpS Tryz.func82 rfl fun c₀ cs hu=>?_
 apply wpS_seq
 apply wpS_region
 simp [wpOpsS,go_sem,recoverD,hu,Tryz.ntmps82,Exit.thenS]
 refine wpS_of_wp ?_
 go_wp2
 cases c₀
 simp_all [bodyPostS,results,Tryz.results82]
def gClo:List Nat:=[42,75,78]
def gPre:List V -> Hp -> Option (Nat × List V × Hp):=fun args H=>match args with
 | [.ptr _ _,.func (.func g) a c]=>gd (has g gClo) (some (g,a ++ c,b0f H))
 | _=>none
def b69:List V -> Hp -> Out -> Option Out:=fun _ _ o=>match o with
 | .ret (.tuple []) H1=>some (.ret (.agg [.int .i64 0,.int .i64 0]) H1)
 | .pan (.iface t (.agg [.int .i64 a,.int .i64 b])) H1=>gd (Nat.beq t 110) (some (.ret (.agg [.int .i64 a,.int .i64 b]) H1))
 | _=>none
theorem c1T {g:Nat} (h:has g gClo = true):∃ fn c,Tryz.prog.funcs[g]? = some fn /\ (fn.name == "runtime.NumGoroutine") = false /\ fn.body = some c:=by
 have:g = 42 ∨ g = 75 ∨ g = 78:=by
  simp only [has,gClo] at h
  split at h
  ·exact .inl (Nat.eq_of_beq_eq_true (by assumption)).symm
  ·split at h
   ·exact .inr (.inl (Nat.eq_of_beq_eq_true (by assumption)).symm)
   ·split at h
    ·exact .inr (.inr (Nat.eq_of_beq_eq_true (by assumption)).symm)
    ·cases h
 rcases this with rfl | rfl | rfl
 ·exact ⟨_,_,Tryz.func42,rfl,rfl⟩
 ·exact ⟨_,_,Tryz.func75,rfl,rfl⟩
 ·exact ⟨_,_,Tryz.func78,rfl,rfl⟩
theorem agg2 {ρ:Rho} {lab:Lab} {w:World} (a b:Int):∀ (i:Nat) (v:V) (x:Value),[V.int .i64 a,.int .i64 b][i]? = some v -> [Value.int .i64 a,.int .i64 b][i]? = some x -> Rel ρ lab w v x
 | 0,_,_,h,g=>by cases h; cases g; exact .int _ _
 | 1,_,_,h,g=>by cases h; cases g; exact .int _ _
 | i + 2,_,_,h,g=>by simp at h
theorem a7U:ViaOk Tryz.prog 41 gPre b69:=by
 refine ⟨fun args H g' l H' o out hp ho ρ lab w xs hc hS hx hcall=>?_,⟨_,_,Tryz.func41,rfl,rfl⟩⟩
 unfold gPre at hp
 split at hp
 ·rename_i args0 r off g0 a c
  obtain ⟨hg,hp⟩:=R7 hp
  cases hp
  obtain ⟨x1,xr0,rfl,r1,r2⟩:=H9.1 hx
  obtain ⟨x2,xr,rfl,r3,r4⟩:=H9.1 r2
  have:xr = []:=by have:=r4.1; simpa using this
  subst this
  cases r3 with
  | func _ _ _ us ys u1 u2 u3 u4 =>
  obtain ⟨fn,cd,k1,k2,k3⟩:=c1T hg
  have hrun:∀ args w,(callFunc g' args).run Tryz.prog w = .ok (.enter g' args) w:=fun args w=>by
   have h1:fn.name ≠ "runtime.NumGoroutine":=by simpa using k2
   simp [callFunc,k1,h1,k3]
  have G:a1i w (w.alloc (.cells #[.int .i64 0,.int .i64 0] 40)):=a1i.push w _
  have hB:w.heap.size < (w.alloc (.cells #[.int .i64 0,.int .i64 0] 40)).heap.size:=by
   show w.heap.size < (w.heap.push _).size
   rw [Array.size_push]; omega
  have hS1:=(hS.mine G hB).b0f
  have hl:L8 ρ lab w (a ++ c) (us ++ ys):=L8.append ⟨u1,u3⟩ ⟨u2,u4⟩
  have hl1:=hl.carry (mineF G)
  have hK:=hcall ρ _ _ (us ++ ys) (b3R _ _ hc) hS1 hl1
  have C0:(w.alloc (.cells #[.int .i64 0,.int .i64 0] 40)).cell? ⟨w.heap.size,0,none⟩ = some (.int .i64 0):=by simp
  have C1:(w.alloc (.cells #[.int .i64 0,.int .i64 0] 40)).cell? ⟨w.heap.size,1,none⟩ = some (.int .i64 0):=by simp
  have Z0:(w.alloc (.cells #[.int .i64 0,.int .i64 0] 40)).frozen? ⟨w.heap.size,0,none⟩ = false:=by simp
  have Z1:(w.alloc (.cells #[.int .i64 0,.int .i64 0] 40)).frozen? ⟨w.heap.size,1,none⟩ = false:=by simp
  have hmf:∀ (fn:Fn) (first cap:Array Value) (w:World),(Instr.makeFunc fn first cap).run Tryz.prog w = .ok (.func fn first cap) w:=fun _ _ _ _=>rfl
  clear hcall hx r1 r2 r4 u3 u4 hl hl1 hS1
  generalize hw1:w.alloc (.cells #[.int .i64 0,.int .i64 0] 40) = w1 at *
  go_enter_defers Tryz.func41,Tryz.ntmps41
  go_wp2
  refine hK.mono ?_
  intro e w2 hP
  unfold b69 at ho
  split at ho
  ·rename_i H1
   cases ho
   cases e with
   | returned x =>
    obtain ⟨ρ',lab',s1,s2,s3,s4,s5,s6⟩:=hP
    have hx0:x = .tuple #[]:=by
     cases s4 with
     | tuple _ zs h1 h2 =>
      have:zs = []:=by simpa using h1
      subst this; rfl
    subst hx0
    obtain ⟨d0,e0⟩:=b1m s2 hB 0
    obtain ⟨d1,e1⟩:=b1m s2 hB 1
    have d0:=d0.trans C0
    have d1:=d1.trans C1
    have E:=Ext.left hS G hB s2 (Wrote.refl _ w2)
    have S:=s1.left s2 (Wrote.refl _ w2)
    unfold cellAt at d0 d1
    go_wp2
    refine leaves_cons (f:=82) (args:=#[.pointer (some ⟨w.heap.size,0,none⟩)]) (by simp) (by simp [go_sem]) ?_
    refine (b95 ⟨w.heap.size,0,none⟩ _).mono ?_
    rintro e u' w'' ⟨rfl,rfl,rfl⟩
    simp [Leaves,settle,results,Tryz.results41,go_sem,d0,d1]
    rw [a9X] at s3 s6
    exact ⟨ρ',_,S,E,s3,.agg _ [.int .i64 0,.int .i64 0] rfl (agg2 _ _),s5,s6⟩
   | panicked ch=>exact hP.elim
   | outgrown=>exact hP.elim
  ·rename_i t fa fb H1
   obtain ⟨ht,ho⟩:=R7 ho
   cases ho
   have ht:=Nat.eq_of_beq_eq_true ht
   subst ht
   cases e with
   | returned x=>exact hP.elim
   | panicked ch =>
    obtain ⟨x,rfl,ρ',lab',s1,s2,s3,s4,s5,s6⟩:=hP
    obtain ⟨xv,rfl,s7⟩:∃ xv,x = .iface 110 xv /\ xv = .agg #[.int .i64 fa,.int .i64 fb]:=by
     cases s4 with
     | iface _ _ xv h =>
      refine ⟨xv,rfl,?_⟩
      cases h with
      | agg _ zs h1 h2 =>
       match zs,h1,h2 with
       | [z0,z1],_,h2 =>
        have q0:=h2 0 _ z0 rfl rfl
        have q1:=h2 1 _ z1 rfl rfl
        cases q0; cases q1; rfl
    subst s7
    obtain ⟨d0,e0⟩:=b1m s2 hB 0
    obtain ⟨d1,e1⟩:=b1m s2 hB 1
    have d0:=d0.trans C0
    have d1:=d1.trans C1
    have e0:=e0.trans Z0
    have e1:=e1.trans Z1
    unfold cellAt at d0 d1
    have hsz:w.heap.size < w2.heap.size:=Nat.lt_of_lt_of_le hB s2.size
    have hW:Wrote w.heap.size w2 (((w2.setCell ⟨w.heap.size,0,none⟩ (.int .i64 fa)).setCell ⟨w.heap.size,0 + 1,none⟩ (.int .i64 fb)).alloc (.cells #[.int .i64 fa,.int .i64 fb] 110)):=by
     refine ⟨?_,rfl,rfl,rfl,fun b hb hn=>?_⟩
     ·refine Nat.le_trans ?_ (a1i.push _ _).size
      rw [World.size_setCell,World.size_setCell]
      exact Nat.le_refl _
     ·refine ((a1i.push _ _).blk b (by rw [World.size_setCell,World.size_setCell]; exact hb)).trans ?_
      rw [heap_setCell_other _ _ _ _ hn,heap_setCell_other _ _ _ _ hn]
    have c0:(w2.setCell ⟨w.heap.size,0,none⟩ (.int .i64 fa)).cell? ⟨w.heap.size,0 + 1,none⟩ = some (.int .i64 0):=(World.cell?_setCell_other _ _ _ _ (by simp)).trans d1
    have f1:((w2.setCell ⟨w.heap.size,0,none⟩ (.int .i64 fa)).setCell ⟨w.heap.size,0 + 1,none⟩ (.int .i64 fb)).cell? ⟨w.heap.size,0 + 1,none⟩ = some (.int .i64 fb):=World.cell?_setCell_same _ _ _ c0
    have f0:((w2.setCell ⟨w.heap.size,0,none⟩ (.int .i64 fa)).setCell ⟨w.heap.size,0 + 1,none⟩ (.int .i64 fb)).cell? ⟨w.heap.size,0,none⟩ = some (.int .i64 fa):=(World.cell?_setCell_other _ _ _ _ (by simp)).trans (World.cell?_setCell_same _ _ _ d0)
    have hsz2:w.heap.size < ((w2.setCell ⟨w.heap.size,0,none⟩ (.int .i64 fa)).setCell ⟨w.heap.size,0 + 1,none⟩ (.int .i64 fb)).heap.size:=by rw [World.size_setCell,World.size_setCell]; exact hsz
    have GT:a1i _ (((w2.setCell ⟨w.heap.size,0,none⟩ (.int .i64 fa)).setCell ⟨w.heap.size,0 + 1,none⟩ (.int .i64 fb)).alloc (.cells #[.int .i64 fa,.int .i64 fb] 110)):=a1i.push _ _
    have f0:=(GT.cell hsz2 0).trans f0
    have f1:=(GT.cell hsz2 (0 + 1)).trans f1
    unfold cellAt at f0 f1
    simp only [Nat.zero_add] at f0 f1
    have E:=Ext.left hS G hB s2 hW
    have S:=s1.left s2 hW
    go_wp2
    refine leaves_cons (f:=82) (args:=#[.pointer (some ⟨w.heap.size,0,none⟩)]) (by simp) (by simp [go_sem]) ?_
    refine (b91 w.heap.size 0 0 0 fa fb .nilIface [] w2 d0 d1 e0 e1).mono ?_
    rintro e u' w'' ⟨rfl,rfl,rfl⟩
    simp [Leaves,settle,results,Tryz.results41,go_sem,f0,f1]
    rw [a9X] at s3 s6
    exact ⟨ρ',_,S,E,s3,.agg _ [.int .i64 fa,.int .i64 fb] rfl (agg2 _ _),s5,s6⟩
   | outgrown=>exact hP.elim
  ·cases ho
 ·cases hp
end Go.Proofs.YtmonfppdiehlpaaGreatDoor
namespace Go.Proofs.YtmonfppdiehlpaaGreatDoor
open Go Go.Vm
def T:List (Nat × Ty):=[
 (1,⟨.func,1,8,[.nilFunc]⟩),
 (3,⟨.int .i64,1,8,[.i 0]⟩),
 (4,⟨.bool,1,1,[.bool false]⟩),
 (5,⟨.int .u8,1,1,[.int .u8 0]⟩),
 (9,⟨.string,1,16,[.str []]⟩),
 (24,⟨.slice 26,1,24,[.slice .nil 0 []]⟩),
 (26,⟨.struct [(3,0),(9,1),(3,2),(24,3)],4,56,[.i 0,.str [],.i 0,.slice .nil 0 []]⟩),
 (27,⟨.slice 29,1,24,[.slice .nil 0 []]⟩),
 (29,⟨.struct [(3,0),(9,1),(3,2),(26,3),(24,7),(27,8),(3,9)],10,144,[.i 0,.str [],.i 0,.i 0,.str [],.i 0,.slice .nil 0 [],.slice .nil 0 [],.slice .nil 0 [],.i 0]⟩),
 (30,⟨.slice 40,1,24,[.slice .nil 0 []]⟩),
 (38,⟨.int .i64,1,8,[.i 0]⟩),
 (40,⟨.struct [(38,0),(3,1)],2,16,[.i 0,.i 0]⟩),
 (54,⟨.ptr 59,1,8,[.nilptr]⟩),
 (57,⟨.slice 72,1,24,[.slice .nil 0 []]⟩),
 (59,⟨.struct [(57,0),(3,1),(3,2)],3,40,[.slice .nil 0 [],.i 0,.i 0]⟩),
 (66,⟨.ptr 68,1,8,[.nilptr]⟩),
 (68,⟨.struct [(57,0),(3,1),(3,2),(3,3)],4,48,[.slice .nil 0 [],.i 0,.i 0,.i 0]⟩),
 (72,⟨.struct [(3,0),(9,1),(3,2),(3,3)],4,40,[.i 0,.str [],.i 0,.i 0]⟩),
 (85,⟨.slice 9,1,24,[.slice .nil 0 []]⟩),
 (110,⟨.struct [(40,0)],2,16,[.i 0,.i 0]⟩),
 (145,⟨.slice 174,1,24,[.slice .nil 0 []]⟩),
 (166,⟨.slice 85,1,24,[.slice .nil 0 []]⟩),
 (174,⟨.struct [(85,0),(4,1)],2,32,[.slice .nil 0 [],.bool false]⟩)]
def keep:Nat -> Nat -> List Nat
 | 13,7=>[2,4,6,7,8]
 | 13,100022=>[2,6,8]
 | 13,190041=>[2,4,6,7,8,41]
 | 14,8=>[2,4,6,7,8,9]
 | 14,100025=>[2,4,6,7,8,9,10]
 | 14,100026=>[2,7,9]
 | 14,190044=>[2,4,6,7,8,9,44]
 | 15,4=>[0,1,5]
 | 15,100009=>[]
 | 16,130003=>[2,3,4,51]
 | 22,130008=>[2,3,4,6,7,8,39]
 | 22,130010=>[2,3,6,7,56]
 | 31,3=>[2,3,9,10,11]
 | 31,100010=>[2,3]
 | 32,3=>[1,4,5,6]
 | 32,100009=>[4,5]
 | 43,100017=>[0,2,3]
 | 43,100019=>[0,2,3]
 | 43,130020=>[0,2,3,56]
 | 44,4=>[0,4,5]
 | 44,100003=>[0,1]
 | 44,100006=>[0,4,5]
 | 44,100014=>[0]
 | 44,130009=>[0,4,5,6,57]
 | 44,130011=>[0,4,5,6,69]
 | 44,130013=>[0,4,5,79]
 | 46,100005=>[0,2,4]
 | 46,100007=>[0,2,4]
 | 48,6=>[0,7,8,9]
 | 48,9=>[0,7,8]
 | 48,100005=>[0,1,7]
 | 48,100010=>[0,7,8]
 | 48,100013=>[0,7]
 | 48,190025=>[0,7,8,9,25]
 | 48,190050=>[0,7,8,50]
 | 49,4=>[0,1,5]
 | 49,100009=>[]
 | 50,4=>[0,1,2,7]
 | 50,100009=>[]
 | 66,18=>[0,2,12,13]
 | 66,100012=>[0,2,6]
 | 66,100023=>[2,12,13]
 | 66,130010=>[0,2,6,7,43]
 | 66,190074=>[0,2,12,13,74]
 | 79,8=>[0,2,3]
 | 79,100011=>[0,2,3]
 | 79,100012=>[0,2,3]
 | 84,5=>[0,2,3]
 | 84,12=>[0,2,3]
 | 84,100013=>[0,2,3]
 | 84,100017=>[0,2,3]
 | 85,8=>[0,2,3]
 | 85,16=>[0,2,3]
 | 85,100017=>[0,2,3]
 | 85,100020=>[0,2,3]
 | 90,4=>[0,3]
 | 90,100010=>[0,3]
 | 91,3=>[0,3]
 | 91,100009=>[0,3,4]
 | 91,100014=>[0,3]
 | 91,100018=>[0,3]
 | 91,190013=>[0,3,13]
 | 92,3=>[0,3]
 | 92,11=>[0,3,4]
 | 92,100008=>[0,3,4]
 | 92,100014=>[0,3,4]
 | 92,100015=>[0,3,4]
 | 92,100017=>[3]
 | 100,8=>[0,3,4,8]
 | 100,100014=>[0,3,4,8,10]
 | 100,100023=>[0,3,4,8]
 | 100,100031=>[0,3,4,8]
 | 100,130008=>[0,3,4,8,40]
 | 100,130016=>[0,3,4,8,10,11,67]
 | 100,130020=>[0,3,4,8,10,13,82]
 | 100,190047=>[0,3,4,8,47]
 | 101,8=>[0,3,4,8]
 | 101,100013=>[0,3,4,8,10]
 | 101,100024=>[0,3,4,8,10]
 | 101,100027=>[0,3,4,8]
 | 101,130008=>[0,3,4,8,37]
 | 101,130022=>[0,3,4,8,10,13,78]
 | 101,190044=>[0,3,4,8,44]
 | 102,6=>[0,3,4,8]
 | 102,18=>[0,3,4,8]
 | 102,100019=>[0,3,4,8]
 | 102,100024=>[0,3,4,8]
 | 102,130004=>[0,3,4,6,28]
 | 102,130016=>[0,3,4,8,9,12,60]
 | 102,130022=>[0,3,4,8,14,81]
 | 103,12=>[0,3,4,10]
 | 103,24=>[0,3,4,10]
 | 103,100025=>[0,3,4,10]
 | 103,100030=>[0,3,4,10]
 | 103,130004=>[0,3,4,6,31]
 | 103,130012=>[0,3,4,10,56]
 | 103,130018=>[0,3,4,10,12,13,76]
 | 103,130022=>[0,3,4,10,12,15,91]
 | 104,100025=>[0,1,4,6,9]
 | 104,100030=>[0,1,4,6,9]
 | 104,100039=>[4,6,9]
 | 104,130011=>[0,1,4,6,9,47]
 | 104,130022=>[0,1,4,6,9,11,12,80]
 | 106,130013=>[8]
 | 122,6=>[0,1,4,6,7,8,9]
 | 122,10=>[0,1,4,6,7,9,10,11]
 | 122,100008=>[0,1,4,6,7,8,9]
 | 122,100012=>[0,1,4,6,7,9,10,11]
 | 122,100015=>[0,1,4,6,7,9,10]
 | 122,100021=>[4,7,8]
 | 122,190038=>[0,1,4,6,7,8,9,38]
 | 138,3=>[0,4,5]
 | 138,100010=>[4]
 | 139,100011=>[2,4,6]
 | 139,100024=>[2,4,6,9]
 | 139,100026=>[2,4,6,9]
 | 139,130009=>[2,4,7,31]
 | 139,130013=>[2,4,6,9,34]
 | 139,130015=>[2,4,6,9,42]
 | 139,130017=>[2,4,6,9,50]
 | 139,130019=>[2,4,6,9,58]
 | 139,130021=>[2,4,6,9,66]
 | 139,130023=>[2,4,6,9,74]
 | 142,100007=>[0,2,3]
 | 144,3=>[0,2,6,7,14,15]
 | 144,6=>[0,2,6,7,9,14,15]
 | 144,100014=>[0,2,6,7,14,15]
 | 144,100015=>[6,7]
 | 144,190065=>[0,2,6,7,9,14,15,65]
 | 146,5=>[0,1,4,5,6]
 | 146,9=>[0,1,4,7]
 | 146,100008=>[0,1,4,5,6]
 | 146,100009=>[0,1,4,5,6]
 | 146,100013=>[4,7]
 | 146,190038=>[0,1,4,7,38]
 | 149,4=>[0,3]
 | 150,100013=>[0,2,3]
 | 151,4=>[0,3]
 | 151,100013=>[0,3,4]
 | 155,2=>[0,1,7,8]
 | 155,100008=>[]
 | 167,4=>[0,1,6]
 | 167,100017=>[0,1]
 | 170,5=>[0,4,5]
 | 170,100014=>[4]
 | 171,4=>[0,1,6]
 | 171,100023=>[0,1,7]
 | 171,100025=>[1]
 | 172,4=>[0,1,6]
 | 172,100011=>[0,1,7]
 | 172,100021=>[0,1]
 | 172,130013=>[0,1,7,8,37]
 | 197,4=>[0,2,3,4]
 | 197,100010=>[0,2,4,5]
 | 197,100017=>[0,2,4]
 | 198,100016=>[0,1,4,5]
 | 198,130004=>[0,1,4,5,6]
 | 198,130006=>[0,1,4,5,16]
 | 210,5=>[0,3]
 | 210,100011=>[0,3,4]
 | 210,100016=>[0,3]
 | 212,2=>[0,3]
 | 212,100005=>[3]
 | 214,2=>[0,4]
 | 214,100008=>[4]
 | 218,2=>[0,2,4,5]
 | 218,100018=>[2,4,5]
 | 223,27=>[0,2,3]
 | 223,100030=>[0,2,3]
 | 223,100037=>[2,3]
 | 224,5=>[0,3]
 | 224,100011=>[0,3]
 | 224,100012=>[0,3]
 | 233,100005=>[0,2,3]
 | 233,100027=>[2,5]
 | 233,130008=>[0,2,23,24]
 | 234,130004=>[0,2,4,24]
 | 234,130028=>[0,2,4,14,125]
 | 236,35=>[0,2,4,15]
 | 236,100043=>[0,2,4]
 | 236,100045=>[0,2]
 | 237,6=>[0,1,6]
 | 237,100015=>[0,1,8,9]
 | 237,100019=>[0,1]
 | 246,5=>[0,2,3,4]
 | 248,3=>[0,2,3]
 | 248,100008=>[2,3]
 | 249,100006=>[0,2,3]
 | 249,100010=>[0,2,3,4]
 | 249,130011=>[0,2,3,30]
 | 250,100011=>[2,3,4]
 | 250,100012=>[2,3]
 | 251,5=>[0,2,3]
 | 251,100012=>[0,2,3]
 | 251,100017=>[0,2,3]
 | 253,1=>[1]
 | 253,100004=>[1]
 | 254,100006=>[0,2,4]
 | 254,100017=>[0,2,4,7]
 | 254,100024=>[0,2,4]
 | 254,130023=>[0,2,4,62]
 | 255,100017=>[2,4,5,7,8,9]
 | 256,6=>[0,4,6,9]
 | 256,100018=>[0,4,6,9]
 | 256,100026=>[0,4,6,9]
 | 256,130005=>[0,4,6,7,32]
 | 258,3=>[0,3,4]
 | 258,100007=>[3]
 | 259,2=>[0,2,4]
 | 259,130011=>[0,2,4,7,61]
 | 260,100015=>[0,2,4,5,6]
 | 261,3=>[0,2,4,5,6]
 | 261,100023=>[2,4]
 | 262,4=>[0,2,4,6,7]
 | 262,100009=>[2,6,7]
 | 262,190024=>[0,2,4,6,7,24]
 | 275,6=>[0,2,3]
 | 275,100009=>[0,2,3]
 | 275,100025=>[2,3]
 | 276,37=>[0,2,4,15,16]
 | 276,100044=>[0,2,4,15]
 | 277,1=>[1]
 | 277,100004=>[1]
 | 277,190011=>[1,11]
 | _,_=>[]
def cut:Nat -> Nat -> Bool
 | 13,22=>true
 | 13,90041=>true
 | 14,25=>true
 | 14,26=>true
 | 14,90044=>true
 | 15,9=>true
 | 16,30003=>true
 | 22,30008=>true
 | 22,30010=>true
 | 31,10=>true
 | 32,9=>true
 | 43,17=>true
 | 43,19=>true
 | 43,30020=>true
 | 44,3=>true
 | 44,6=>true
 | 44,14=>true
 | 44,30009=>true
 | 44,30011=>true
 | 44,30013=>true
 | 46,5=>true
 | 46,7=>true
 | 48,5=>true
 | 48,10=>true
 | 48,13=>true
 | 48,90025=>true
 | 48,90050=>true
 | 49,9=>true
 | 50,9=>true
 | 66,12=>true
 | 66,23=>true
 | 66,30010=>true
 | 66,90074=>true
 | 79,11=>true
 | 79,12=>true
 | 84,13=>true
 | 84,17=>true
 | 85,17=>true
 | 85,20=>true
 | 90,10=>true
 | 91,9=>true
 | 91,14=>true
 | 91,18=>true
 | 91,90013=>true
 | 92,8=>true
 | 92,14=>true
 | 92,15=>true
 | 92,17=>true
 | 100,14=>true
 | 100,23=>true
 | 100,31=>true
 | 100,30008=>true
 | 100,30016=>true
 | 100,30020=>true
 | 100,90047=>true
 | 101,13=>true
 | 101,24=>true
 | 101,27=>true
 | 101,30008=>true
 | 101,30022=>true
 | 101,90044=>true
 | 102,19=>true
 | 102,24=>true
 | 102,30004=>true
 | 102,30016=>true
 | 102,30022=>true
 | 103,25=>true
 | 103,30=>true
 | 103,30004=>true
 | 103,30012=>true
 | 103,30018=>true
 | 103,30022=>true
 | 104,25=>true
 | 104,30=>true
 | 104,39=>true
 | 104,30011=>true
 | 104,30022=>true
 | 106,30013=>true
 | 122,8=>true
 | 122,12=>true
 | 122,15=>true
 | 122,21=>true
 | 122,90038=>true
 | 138,10=>true
 | 139,11=>true
 | 139,24=>true
 | 139,26=>true
 | 139,30009=>true
 | 139,30013=>true
 | 139,30015=>true
 | 139,30017=>true
 | 139,30019=>true
 | 139,30021=>true
 | 139,30023=>true
 | 142,7=>true
 | 144,14=>true
 | 144,15=>true
 | 144,90065=>true
 | 146,8=>true
 | 146,9=>true
 | 146,13=>true
 | 146,90038=>true
 | 150,13=>true
 | 151,13=>true
 | 155,8=>true
 | 167,17=>true
 | 170,14=>true
 | 171,23=>true
 | 171,25=>true
 | 172,11=>true
 | 172,21=>true
 | 172,30013=>true
 | 197,10=>true
 | 197,17=>true
 | 198,16=>true
 | 198,30004=>true
 | 198,30006=>true
 | 210,11=>true
 | 210,16=>true
 | 212,5=>true
 | 214,8=>true
 | 218,18=>true
 | 223,30=>true
 | 223,37=>true
 | 224,11=>true
 | 224,12=>true
 | 233,5=>true
 | 233,27=>true
 | 233,30008=>true
 | 234,30004=>true
 | 234,30028=>true
 | 236,43=>true
 | 236,45=>true
 | 237,15=>true
 | 237,19=>true
 | 248,8=>true
 | 249,6=>true
 | 249,10=>true
 | 249,30011=>true
 | 250,11=>true
 | 250,12=>true
 | 251,12=>true
 | 251,17=>true
 | 253,4=>true
 | 254,6=>true
 | 254,17=>true
 | 254,24=>true
 | 254,30023=>true
 | 255,17=>true
 | 256,18=>true
 | 256,26=>true
 | 256,30005=>true
 | 258,7=>true
 | 259,30011=>true
 | 260,15=>true
 | 261,23=>true
 | 262,9=>true
 | 262,90024=>true
 | 275,9=>true
 | 275,25=>true
 | 276,44=>true
 | 277,4=>true
 | 277,90011=>true
 | _,_=>false
def b2v:List Nat:=[]
def b1A:Nat -> Nat -> Bool
 | 87,7=>true
 | 87,8=>true
 | 90,0=>true
 | 138,0=>true
 | 150,8=>true
 | 151,0=>true
 | 167,0=>true
 | 171,0=>true
 | 172,0=>true
 | 210,0=>true
 | 252,8=>true
 | f,_=>has f b2v
def a6H:Nat -> Nat -> Bool
 | 167,1=>true
 | 171,1=>true
 | 172,1=>true
 | 237,1=>true
 | f,_=>has f b2v
def slk:Nat -> Nat -> List (Nat × Nat)
 | 66,18=>[(12,3)]
 | 104,100030=>[(6,6)]
 | 122,6=>[(7,6),(7,7),(7,8)]
 | 144,6=>[(7,6),(7,7),(7,8)]
 | 144,100014=>[(7,6),(7,7),(7,8)]
 | 146,9=>[(7,3)]
 | 197,4=>[(4,6),(4,7)]
 | 197,100017=>[(4,8)]
 | 218,2=>[(4,6),(4,7),(4,8)]
 | 223,100037=>[(3,8)]
 | 237,100015=>[(8,6),(8,7),(8,8)]
 | 248,3=>[(3,6)]
 | 254,100017=>[(4,6)]
 | 260,100015=>[(5,6)]
 | 261,3=>[(5,3)]
 | _,_=>[]
def sep:Nat -> Nat -> Option (List Nat × List Nat)
 | 13,3=>some ([0,1,2,3,4],[5,1000002])
 | 14,3=>some ([0,1,2,3,4],[5,1000002])
 | 22,3=>some ([0,1,2,3],[5,1000002])
 | 22,7=>some ([0,1,2,3,4,5,6,7],[43,1000002])
 | 35,3=>some ([0,1,2,3],[5,1000002])
 | 35,7=>some ([0,1,2,3],[5,1000002])
 | 39,2=>some ([0,1,2,3,5,4,6,7],[5])
 | 43,12=>some ([0,1,2,3,4,5,6],[30])
 | 43,22=>some ([0,1,2,3,4,5,6],[64])
 | 43,27=>some ([0,1,2,3,4,5,6],[79])
 | 83,3=>some ([0,1,2,3,4,5,6,7,8,9,10,11,12,13],[32,28,24])
 | 86,3=>some ([0,1,2,3,4,5,6,7],[7])
 | 92,10=>some ([0,1,2,3,4,5,6,7],[22])
 | 92,12=>some ([0,1,2,3,4,5,6,7],[31])
 | 144,7=>some ([0,1,2,3,4,5,6,7,8,9,10,11,12,13,14,15],[77,75,72,68])
 | 144,9=>some ([0,1,3,4,5,6,2,7,8,9],[])
 | 146,11=>some ([0,2,3,1,4,5],[7])
 | 150,5=>some ([0,1,2,3,4,5,6],[15])
 | 150,13=>some ([0,1,2,3,4,5,6],[41])
 | 153,3=>some ([0,1,2,3,4,5,6,7,8,9,10,11],[20,18,14])
 | 197,5=>some ([0,2,3,4,5,1,6,7,8],[4,17])
 | 197,8=>some ([0,1,2,3,4,5,6],[25])
 | 197,12=>some ([0,1,2,3,4,5,6,7],[38,36])
 | 197,14=>some ([0,1,2,3,4,5,6],[48])
 | 223,26=>some ([0,1,2,3,4,5,6,7],[77])
 | 223,28=>some ([0,1,2,3,4,5,6,7],[86])
 | 233,18=>some ([0,1,2,3,4,5,6,7],[56])
 | 233,37=>some ([0,1,2,3,4,5,6,7],[112])
 | 233,45=>some ([0,1,2,3,4,5,6,7],[144])
 | 234,20=>some ([0,1,2,3,4,5,6,7],[9])
 | 234,23=>some ([0,1,2,3,4,5,6,7,8,9,10],[12])
 | 236,46=>some ([0,1,2,3,4,5,6,7],[20])
 | 246,5=>some ([0,1,2,3,4,5,6,7],[16])
 | 250,4=>some ([0,1,2,3,4,5,6,7],[13])
 | 251,9=>some ([0,1,2,3,4,5,6,7],[32])
 | 251,14=>some ([0,1,2,3,4,5,6,7],[54])
 | 257,12=>some ([0,1,2,3,4,5,6,7,8,9,10,11,12],[7,4,44])
 | 259,2=>some ([0,1,2,3,4,5,6,7,8,9,10,11],[21,19,15])
 | 261,6=>some ([0,1,2,3,4,5,6,7],[5,1000033])
 | 261,16=>some ([0,1,2,3,4,5,6,7],[5,1000062,1000063])
 | 275,5=>some ([0,1,2,3,4,5,6,7],[14])
 | 275,7=>some ([0,1,2,3,4,5,6,7],[23])
 | _,_=>none
def mask:Nat -> Nat -> List Nat
 | 13,3=>[0,0,2,1,15]
 | 14,3=>[0,0,2,1,15]
 | 22,3=>[0,0,1,7]
 | 22,7=>[0,0,2,6,14,30,1,127]
 | 35,3=>[0,0,1,7]
 | 35,7=>[0,0,1,7]
 | 39,2=>[0,0,2,7,15,0,31,127]
 | 43,12=>[0,1,0,4,15,31,63]
 | 43,22=>[0,1,0,4,15,31,63]
 | 43,27=>[0,1,0,4,15,31,63]
 | 83,3=>[0,1,3,7,0,16,48,112,0,496,1023,2047,0,8191]
 | 86,3=>[0,1,0,4,12,31,63,127]
 | 92,10=>[0,1,0,4,12,31,63,127]
 | 92,12=>[0,1,0,4,12,31,63,127]
 | 144,7=>[0,1,3,7,0,16,48,112,255,511,1023,0,2048,8191,0,32767]
 | 144,9=>[0,0,2,0,0,16,56,127,0,511]
 | 146,11=>[0,1,0,4,15,31]
 | 150,5=>[0,1,0,4,15,31,63]
 | 150,13=>[0,1,0,4,15,31,63]
 | 153,3=>[0,1,3,7,0,16,48,112,255,511,0,2047]
 | 197,5=>[0,1,0,4,0,16,63,0,255]
 | 197,8=>[0,1,0,4,15,31,63]
 | 197,12=>[0,1,0,4,0,16,63,127]
 | 197,14=>[0,1,0,4,15,31,63]
 | 223,26=>[0,1,0,4,12,31,63,127]
 | 223,28=>[0,1,0,4,12,31,63,127]
 | 233,18=>[0,1,0,4,12,31,63,127]
 | 233,37=>[0,1,0,4,12,31,63,127]
 | 233,45=>[0,1,0,4,12,31,63,127]
 | 234,20=>[0,0,2,6,14,30,31,127]
 | 234,23=>[0,0,2,7,0,16,48,112,240,255,1023]
 | 236,46=>[0,0,2,6,14,30,31,127]
 | 246,5=>[0,1,0,4,12,31,63,127]
 | 250,4=>[0,1,0,4,12,31,63,127]
 | 251,9=>[0,1,0,4,12,31,63,127]
 | 251,14=>[0,1,0,4,12,31,63,127]
 | 257,12=>[0,1,0,0,12,31,0,64,192,448,960,1023,4095]
 | 259,2=>[0,1,3,7,0,16,48,112,255,511,0,2047]
 | 261,6=>[0,0,0,4,13,29,63,127]
 | 261,16=>[0,0,0,4,13,29,63,127]
 | 275,5=>[0,1,0,4,12,31,63,127]
 | 275,7=>[0,1,0,4,12,31,63,127]
 | _,_=>[]
def okL:List Nat:=[3,8,11,13,14,15,16,22,31,32,35,38,39,40,42,43,44,46,47,48,49,50,63,66,75,76,77,79,83,84,85,86,87,88,89,90,91,92,93,94,99,100,101,102,103,104,105,106,122,136,137,138,139,142,143,144,145,146,147,149,150,151,152,153,154,155,166,167,168,169,170,171,172,185,186,196,197,198,210,211,212,214,218,223,224,233,234,236,237,245,246,247,248,249,250,251,252,253,254,255,256,257,258,259,260,261,262,275,276,277]
def b8Z:List Nat:=[40]
def b2i:List Nat:=[3,8,11,12,13,14,15,16,22,31,32,35,38,45,48,49,50,81,94,105,106,143,155,185,198,253,258,274,277]
def b4s:List Nat:=[]
def tagL:List Nat:=[87,90,138,150,151,167,171,172,210,252] ++ b2v
def argL:List Nat:=[167,171,172,237] ++ b2v
theorem tys:tysB Tryz.prog T = true:=by kernel_rfl
theorem mixed:Tryz.prog.follows .mixedOrders = true:=by kernel_rfl
def b43:Nat -> Option Hand
 | 61=>some (.plain b6M)
 | 274=>some (.plain b8i)
 | 41=>some (.via gPre b69)
 | _=>none
noncomputable def b1a:Env:={ P:=Tryz.prog,T:=T,keep:=keep,byref:=fun _ _=>none,meth:=fun _ _=>none,tags:=fun g=>has g tagL,argTags:=fun g=>has g argL,quiet:=fun g=>has g b2i,loose:=fun _=>false,ok:=fun g=>has g okL,cut:=cut,b1A:=b1A,a6H:=a6H,sep:=sep,mask:=mask,look:=fun g=>has g b8Z,frz:=fun g=>has g b4s,slk:=slk,full:=true,intr:=b43 }
theorem b9Q:b1R b1a okL = true:=by kernel_rfl
theorem b7m:a8m b1a:=by
 intro _ _ _ h
 cases h
theorem envOk0:a8g b1a:=⟨b7m,b1p tys,mixed,a9e (fun _ h=>h) b9Q,(fun g h hg=>by simp only [b1a,b43] at hg; split at hg <;> first | (cases hg; done) | (cases hg; exact b4E) | (cases hg; exact b6A)),(fun g pre post hg=>by simp only [b1a,b43] at hg; split at hg <;> first | (cases hg; done) | (cases hg; exact a7U))⟩
end Go.Proofs.YtmonfppdiehlpaaGreatDoor
namespace Go.Proofs.YtmonfppdiehlpaaGreatDoor.Aw
open Go Go.Vm
structure Flt where
 code:Int
 at_:Int
def b6U:List Flt -> List V
 | []=>[]
 | x :: r=>.i x.code :: .i x.at_ :: b6U r
structure Typ where
 kind:Int
 name:Str
 n:Int
 args:List Typ
mutual
def Typ.sub:Typ -> List V
 | ⟨_,_,_,a3⟩=>l6 a3
def l6:List Typ -> List V
 | []=>[]
 | x :: r=>.i x.kind :: .str x.name :: .i x.n :: .slice .sealed (List.length x.args) (x.sub) :: l6 r
end
def c1Typ (x:Typ):List V:=[.i x.kind,.str x.name,.i x.n,.sl l6 x.args]
theorem a8w:a3F 4 c1Typ l6:=⟨fun _=>rfl,rfl,fun x r=>by cases x; rfl⟩
structure Nod where
 op:Int
 s:Str
 n:Int
 t:Typ
 ts:List Typ
 l:List Nod
 at_:Int
mutual
def Nod.sub:Nod -> List V
 | ⟨_,_,_,_,_,a5,_⟩=>A9 a5
def A9:List Nod -> List V
 | []=>[]
 | x :: r=>.i x.op :: .str x.s :: .i x.n :: .i x.t.kind :: .str x.t.name :: .i x.t.n :: .sl l6 x.t.args :: .sl l6 x.ts :: .slice .sealed (List.length x.l) (x.sub) :: .i x.at_ :: A9 r
end
def b0e (x:Nod):List V:=(c0 x.op x.s x.n x.t.kind x.t.name x.t.n (.sl l6 x.t.args) (.sl l6 x.ts) (.sl A9 x.l) x.at_)
theorem Z7:a3F 10 b0e A9:=⟨fun _=>rfl,rfl,fun x r=>by cases x; rfl⟩
end Go.Proofs.YtmonfppdiehlpaaGreatDoor.Aw
namespace Go.Proofs.YtmonfppdiehlpaaGreatDoor.Aw
open Go Go.Vm
def T:List (Nat × Ty):=[
 (1,⟨.func,1,8,[.nilFunc]⟩),
 (2,⟨.int .i64,1,8,[.i 0]⟩),
 (3,⟨.int .i64,1,8,[.i 0]⟩),
 (4,⟨.bool,1,1,[.bool false]⟩),
 (5,⟨.int .u8,1,1,[.int .u8 0]⟩),
 (9,⟨.string,1,16,[.str []]⟩),
 (24,⟨.slice 26,1,24,[.slice .nil 0 []]⟩),
 (26,⟨.struct [(3,0),(9,1),(3,2),(24,3)],4,56,[.i 0,.str [],.i 0,.slice .nil 0 []]⟩),
 (27,⟨.slice 29,1,24,[.slice .nil 0 []]⟩),
 (29,⟨.struct [(3,0),(9,1),(3,2),(26,3),(24,7),(27,8),(3,9)],10,144,[.i 0,.str [],.i 0,.i 0,.str [],.i 0,.slice .nil 0 [],.slice .nil 0 [],.slice .nil 0 [],.i 0]⟩),
 (30,⟨.slice 40,1,24,[.slice .nil 0 []]⟩),
 (38,⟨.int .i64,1,8,[.i 0]⟩),
 (40,⟨.struct [(38,0),(3,1)],2,16,[.i 0,.i 0]⟩),
 (54,⟨.ptr 59,1,8,[.nilptr]⟩),
 (57,⟨.slice 72,1,24,[.slice .nil 0 []]⟩),
 (59,⟨.struct [(57,0),(3,1),(3,2)],3,40,[.slice .nil 0 [],.i 0,.i 0]⟩),
 (72,⟨.struct [(3,0),(9,1),(3,2),(3,3)],4,40,[.i 0,.str [],.i 0,.i 0]⟩),
 (81,⟨.slice 5,1,24,[.slice .nil 0 []]⟩),
 (84,⟨.ptr 87,1,8,[.nilptr]⟩),
 (85,⟨.slice 9,1,24,[.slice .nil 0 []]⟩),
 (87,⟨.struct [(85,0)],1,24,[.slice .nil 0 []]⟩),
 (88,⟨.func,1,8,[.nilFunc]⟩),
 (90,⟨.iface,1,16,[.nilIface]⟩),
 (100,⟨.func,1,8,[.nilFunc]⟩),
 (110,⟨.struct [(40,0)],2,16,[.i 0,.i 0]⟩),
 (116,⟨.slice 3,1,24,[.slice .nil 0 []]⟩),
 (145,⟨.slice 174,1,24,[.slice .nil 0 []]⟩),
 (149,⟨.ptr 153,1,8,[.nilptr]⟩),
 (151,⟨.struct [(9,0),(3,1)],2,24,[.str [],.i 0]⟩),
 (153,⟨.struct [(151,0),(57,2),(40,3)],5,64,[.str [],.i 0,.slice .nil 0 [],.i 0,.i 0]⟩),
 (157,⟨.func,1,8,[.nilFunc]⟩),
 (174,⟨.struct [(85,0),(4,1)],2,32,[.slice .nil 0 [],.bool false]⟩),
 (197,⟨.ptr 151,1,8,[.nilptr]⟩),
 (200,⟨.array 32 9,32,512,[.str [],.str [],.str [],.str [],.str [],.str [],.str [],.str [],.str [],.str [],.str [],.str [],.str [],.str [],.str [],.str [],.str [],.str [],.str [],.str [],.str [],.str [],.str [],.str [],.str [],.str [],.str [],.str [],.str [],.str [],.str [],.str []]⟩),
 (202,⟨.array 27 9,27,432,[.str [],.str [],.str [],.str [],.str [],.str [],.str [],.str [],.str [],.str [],.str [],.str [],.str [],.str [],.str [],.str [],.str [],.str [],.str [],.str [],.str [],.str [],.str [],.str [],.str [],.str [],.str []]⟩),
 (206,⟨.array 24 5,24,24,[.int .u8 0,.int .u8 0,.int .u8 0,.int .u8 0,.int .u8 0,.int .u8 0,.int .u8 0,.int .u8 0,.int .u8 0,.int .u8 0,.int .u8 0,.int .u8 0,.int .u8 0,.int .u8 0,.int .u8 0,.int .u8 0,.int .u8 0,.int .u8 0,.int .u8 0,.int .u8 0,.int .u8 0,.int .u8 0,.int .u8 0,.int .u8 0]⟩),
 (207,⟨.int .u64,1,8,[.int .u64 0]⟩),
 (262,⟨.int .i64,1,8,[.i 0]⟩)]
def keep:Nat -> Nat -> List Nat
 | 13,7=>[2,4,6,7,8]
 | 31,3=>[2,3,9,10,11]
 | 56,13=>[0,48,49,50]
 | 56,21=>[0,69,70,71]
 | 56,37=>[0,118,119,120]
 | 79,8=>[0,2,3]
 | 90,4=>[0,3]
 | 111,3=>[1,5,11,12,13]
 | 111,6=>[1,5,7,11,12,13,17,18,19]
 | 114,5=>[0,3,23,24,25]
 | 114,15=>[0,52,53,54]
 | 129,1=>[0,2,8,9,10]
 | 144,3=>[0,2,6,7,14,15]
 | 144,6=>[0,2,6,7,9,14,15]
 | 146,5=>[0,1,4,5,6]
 | 146,9=>[0,1,4,7]
 | 148,2=>[0,1,2,7]
 | 151,4=>[0,3]
 | 155,2=>[0,1,7,8]
 | 174,3=>[0,10,11,12]
 | 189,40=>[0,140,141,142]
 | 197,4=>[0,2,3,4]
 | 199,0=>[0]
 | 208,3=>[0,3,4]
 | 210,5=>[0,3]
 | 212,2=>[0,3]
 | 223,27=>[0,2,3]
 | 227,2=>[0,1,5]
 | 231,2=>[0,1,5,6]
 | 286,10=>[5,6,47,48,49]
 | _,_=>[]
def cut:Nat -> Nat -> Bool
 | _,_=>false
def b2v:List Nat:=[31,39,40,42,43,56,58,64,68,76,79,81,83,86,87,88,89,90,93,109,110,111,114,115,123,127,129,142,143,144,145,146,147,148,150,151,152,153,154,174,175,176,189,197,198,199,200,202,205,207,208,209,210,211,212,215,223,226,227,230,231,232,233,245,274,286]
def b1A:Nat -> Nat -> Bool
 | f,_=>has f b2v
def a6H:Nat -> Nat -> Bool
 | f,_=>has f b2v
def slk:Nat -> Nat -> List (Nat × Nat)
 | _,_=>[]
def sep:Nat -> Nat -> Option (List Nat × List Nat)
 | 13,3=>some ([0,1,2,3,4],[5,1000002])
 | 39,2=>some ([0,1,2,3,5,4,6,7],[5])
 | 43,12=>some ([0,1,2,3,4,5,6],[30])
 | 43,22=>some ([0,1,2,3,4,5,6],[64])
 | 43,27=>some ([0,1,2,3,4,5,6],[79])
 | 83,3=>some ([0,1,2,3,4,5,6,7,8,9,10,11,12,13],[32,28,24])
 | 86,3=>some ([0,1,2,3,4,5,6,7],[7])
 | 144,7=>some ([0,1,2,3,4,5,6,7,8,9,10,11,12,13,14,15],[77,75,72,68])
 | 144,9=>some ([0,1,3,4,5,6,2,7,8,9],[])
 | 146,11=>some ([0,2,3,1,4,5],[7])
 | 150,5=>some ([0,1,2,3,4,5,6],[15])
 | 150,13=>some ([0,1,2,3,4,5,6],[41])
 | 153,3=>some ([0,1,2,3,4,5,6,7,8,9,10,11],[20,18,14])
 | 197,5=>some ([0,2,3,4,5,1,6,7,8],[4,17])
 | 197,8=>some ([0,1,2,3,4,5,6],[25])
 | 197,12=>some ([0,1,2,3,4,5,6,7],[38,36])
 | 197,14=>some ([0,1,2,3,4,5,6],[48])
 | 223,26=>some ([0,1,2,3,4,5,6,7],[77])
 | 223,28=>some ([0,1,2,3,4,5,6,7],[86])
 | 233,18=>some ([0,1,2,3,4,5,6,7],[56])
 | 233,37=>some ([0,1,2,3,4,5,6,7],[112])
 | 233,45=>some ([0,1,2,3,4,5,6,7],[144])
 | _,_=>none
def mask:Nat -> Nat -> List Nat
 | 13,3=>[0,0,2,1,15]
 | 39,2=>[0,0,2,7,15,0,31,127]
 | 43,12=>[0,1,0,4,15,31,63]
 | 43,22=>[0,1,0,4,15,31,63]
 | 43,27=>[0,1,0,4,15,31,63]
 | 83,3=>[0,1,3,7,0,16,48,112,0,496,1023,2047,0,8191]
 | 86,3=>[0,1,0,4,12,31,63,127]
 | 144,7=>[0,1,3,7,0,16,48,112,255,511,1023,0,2048,8191,0,32767]
 | 144,9=>[0,0,2,0,0,16,56,127,0,511]
 | 146,11=>[0,1,0,4,15,31]
 | 150,5=>[0,1,0,4,15,31,63]
 | 150,13=>[0,1,0,4,15,31,63]
 | 153,3=>[0,1,3,7,0,16,48,112,255,511,0,2047]
 | 197,5=>[0,1,0,4,0,16,63,0,255]
 | 197,8=>[0,1,0,4,15,31,63]
 | 197,12=>[0,1,0,4,0,16,63,127]
 | 197,14=>[0,1,0,4,15,31,63]
 | 223,26=>[0,1,0,4,12,31,63,127]
 | 223,28=>[0,1,0,4,12,31,63,127]
 | 233,18=>[0,1,0,4,12,31,63,127]
 | 233,37=>[0,1,0,4,12,31,63,127]
 | 233,45=>[0,1,0,4,12,31,63,127]
 | _,_=>[]
def okL:List Nat:=[12,13,31,39,40,42,43,56,58,64,68,76,79,81,83,86,87,88,89,90,93,94,109,110,111,114,115,123,127,129,131,142,143,144,145,146,147,148,150,151,152,153,154,155,174,175,176,189,193,197,198,199,200,202,204,205,206,207,208,209,210,211,212,215,222,223,225,226,227,229,230,231,232,233,241,245,274,286]
def b8Z:List Nat:=[40]
def b2i:List Nat:=[12,13,20,94,131,155,193,204,206,222,225,229,241]
def b4s:List Nat:=[]
def tagL:List Nat:=[] ++ b2v
def argL:List Nat:=[] ++ b2v
theorem tys:tysB Tryz.prog T = true:=by kernel_rfl
theorem mixed:Tryz.prog.follows .mixedOrders = true:=by kernel_rfl
def b43:Nat -> Option Hand
 | 61=>some (.plain b6M)
 | 41=>some (.via gPre b69)
 | _=>none
noncomputable def b1a:Env:={ P:=Tryz.prog,T:=T,keep:=keep,byref:=fun _ _=>none,meth:=fun _ _=>none,tags:=fun g=>has g tagL,argTags:=fun g=>has g argL,quiet:=fun g=>has g b2i,loose:=fun _=>false,ok:=fun g=>has g okL,cut:=cut,b1A:=b1A,a6H:=a6H,sep:=sep,mask:=mask,look:=fun g=>has g b8Z,frz:=fun g=>has g b4s,slk:=slk,full:=true,intr:=b43 }
theorem b9Q:b1R b1a okL = true:=by kernel_rfl
theorem b7m:a8m b1a:=by
 intro _ _ _ h
 cases h
theorem envOk0:a8g b1a:=⟨b7m,b1p tys,mixed,a9e (fun _ h=>h) b9Q,(fun g h hg=>by simp only [b1a,b43] at hg; split at hg <;> first | (cases hg; done) | (cases hg; exact b4E)),(fun g pre post hg=>by simp only [b1a,b43] at hg; split at hg <;> first | (cases hg; done) | (cases hg; exact a7U))⟩
end Go.Proofs.YtmonfppdiehlpaaGreatDoor.Aw
namespace Go.Vm
open Go
variable {env:Env}
def rho0:Rho:=⟨fun _=>none,fun _ _=>none⟩
def lab0:Lab:=fun _ _=>none
theorem rho0_le (ρ:Rho):rho0.le ρ:=⟨fun _ _ h=>(by cases h),fun _ _ _ h=>(by cases h)⟩
def b4k (B:Nat):Rho:=⟨fun k=>if k = 0 then some (some (B,0),none) else none,fun k n=>if k = 1 /\ n = 0 then some (none,0) else none⟩
def a3D (B:Nat):Lab:=fun b o=>if b = B /\ o = 0 then some (some 0) else none
def hp1:Hp:=[(0,.row [.slice (.tag 1) 0 []]),(1,.tip 0 0)]
theorem old_rel {w0 w:World} {B:Nat} (hB:w0.heap.size <= B) (hk:∀ b,b < w0.heap.size -> w.heap[b]? = w0.heap[b]?) {v:V} {x:Value} (h:Rel rho0 lab0 w0 v x):Rel (b4k B) (a3D B) w v x:=by
 have h1:Rel rho0 (a3D B) w v x:=by
  refine h.carry fun b o x h=>?_
  have hb:=a1m h.cell
  refine ⟨?_,?_⟩
  ·simp only [a3D]
   rw [if_neg (by omega)]
  ·simp only [cellAt,World.cell?,hk b hb]
   exact h.cell
 exact h1.ext (Ext.refl _ _) (rho0_le _)
theorem sim1 {w:World} {B:Nat} (hc:w.cell? ⟨B,0,none⟩ = some (.slice none 0 0)) (hz:w.frozen? ⟨B,0,none⟩ = false):Sim (b4k B) (a3D B) hp1 w where
 row:=fun k cs h=>by
  have:k = 0 /\ cs = [.slice (.tag 1) 0 []]:=by
   simp only [hp1,hget] at h
   split at h
   ·rename_i hb; cases h; exact ⟨(Nat.eq_of_beq_eq_true hb).symm,rfl⟩
   ·split at h
    ·cases h
    ·cases h
  obtain ⟨rfl,rfl⟩:=this
  refine ⟨B,0,[.slice none 0 0],by simp [b4k],?_,fun i x hx=>?_⟩
  ·refine H9.2 ⟨_,_,rfl,.slice _ 0 [] [] 0 0 none 0 rfl (Nat.le_refl _) (fun h=>by omega) (fun _=>rfl) (fun i x h=>by simp at h) (fun i v x h=>by simp at h) (by simp [b4k]) (by simp) (by simp),⟨rfl,by simp⟩⟩
  ·match i,hx with
   | 0,hx =>
    cases hx
    exact ⟨⟨by simp [a3D],hz,_,hc⟩,hc⟩
   | i + 1,hx=>simp at hx
 grow:=fun k e cs h=>by
  simp only [hp1,hget] at h
  split at h
  ·cases h
  ·split at h <;> cases h
 tip:=fun k e n h=>by
  have:k = 1 /\ e = 0 /\ n = 0:=by
   simp only [hp1,hget] at h
   split at h
   ·cases h
   ·split at h
    ·rename_i hb; cases h; exact ⟨(Nat.eq_of_beq_eq_true hb).symm,rfl,rfl⟩
    ·cases h
  obtain ⟨rfl,rfl,rfl⟩:=this
  exact ⟨none,0,by simp [b4k],Nat.le_refl _,fun _=>rfl,fun _=>rfl,fun a h=>by cases h⟩
 hdom:=fun k n x h=>by
  simp only [b4k] at h
  split at h
  ·rename_i hk
   obtain ⟨rfl,rfl⟩:=hk
   exact ⟨0,0,rfl,Nat.le_refl _⟩
  ·cases h
 adom:=fun k x h=>by
  simp only [b4k] at h
  split at h
  ·rename_i hk
   subst hk
   simp [hp1,hget]
  ·cases h
 ldom:=fun b o k h=>by
  simp only [a3D] at h
  split at h
  ·rename_i hb
   obtain ⟨rfl,rfl⟩:=hb
   exact a1m hc
  ·cases h
theorem b2U {w w':World} {B:Nat} {lab':Lab} (E:Ext (a3D B) w lab' w'):Wrote B w w' :=
 ⟨E.size,E.os,E.tape,E.output,fun b hb hn=>E.blk b hb (fun o k h=>by
  simp only [a3D] at h
  rw [if_neg (fun h=>hn h.1)] at h
  cases h)⟩
theorem c1t (hE:a8g env) {g1 g2:Nat} {c:V} {H1 H2:Hp} {s:List UInt8}
  (h1:E env (.call g1 [.ptr 0 0,c]) hp1 = some (.ret (.tuple []) H1)) (h2:E env (.call g2 [.ptr 0 0]) H1 = some (.ret (.str s) H2))
  {w0 w:World} {B:Nat} (hB:w0.heap.size <= B) (hk:∀ b,b < w0.heap.size -> w.heap[b]? = w0.heap[b]?) (hc:w.cell? ⟨B,0,none⟩ = some (.slice none 0 0)) (hz:w.frozen? ⟨B,0,none⟩ = false) {x:Value} (hx:Rel rho0 lab0 w0 c x) :
  Calls env.P g1 #[.pointer (some ⟨B,0,none⟩),x] w fun e w1=>e = .returned (.tuple #[]) /\ Wrote B w w1 /\
   Calls env.P g2 #[.pointer (some ⟨B,0,none⟩)] w1 fun e w2=>e = .returned (.string ⟨⟨s⟩⟩) /\ Wrote B w w2:=by
 obtain ⟨k1,hk1⟩:=(a2j env).at_ _ _ _ h1
 obtain ⟨k2,hk2⟩:=(a2j env).at_ _ _ _ h2
 have hS:=sim1 hc hz
 have hp:Rel (b4k B) (a3D B) w (.ptr 0 0) (.pointer (some ⟨B,0 + 0,none⟩)):=.ptr 0 0 B 0 none (by simp [b4k])
 have hL:L8 (b4k B) (a3D B) w [.ptr 0 0,c] [.pointer (some ⟨B,0,none⟩),x]:=H9.2 ⟨_,_,rfl,hp,H9.2 ⟨_,_,rfl,old_rel hB hk hx,⟨rfl,by simp⟩⟩⟩
 have C1:=(b44 hE k1).1.call g1 _ _ _ hk1 (b4k B) (a3D B) w _ ⟨rfl,rfl,trivial⟩ hS hL
 refine C1.mono fun e w1 hP=>?_
 cases e with
 | returned v =>
  obtain ⟨ρ',lab',s1,s2,s3,s4,s5,s6⟩:=hP
  have hv:v = .tuple #[]:=by
   cases s4 with
   | tuple _ zs h1 h2 =>
    have:zs = []:=by simpa using h1
    subst this; rfl
  refine ⟨by rw [hv],b2U s2,?_⟩
  have ha:ρ'.at_ 0 = some (some (B,0),none):=s3.at_ 0 _ (by decide) (by simp [b4k])
  have hp2:Rel ρ' lab' w1 (.ptr 0 0) (.pointer (some ⟨B,0 + 0,none⟩)):=.ptr 0 0 B 0 none ha
  have hL2:L8 ρ' lab' w1 [.ptr 0 0] [.pointer (some ⟨B,0,none⟩)]:=H9.2 ⟨_,_,rfl,hp2,⟨rfl,by simp⟩⟩
  have C2:=(b44 hE k2).1.call g2 _ _ _ hk2 ρ' lab' w1 _ s5 s1 hL2
  refine C2.mono fun e w2 hP=>?_
  cases e with
  | returned v2 =>
   obtain ⟨ρ2,lab2,t1,t2,t3,t4,t5,t6⟩:=hP
   have hv2:v2 = .string ⟨⟨s⟩⟩:=by cases t4; rfl
   exact ⟨by rw [hv2],b2U (s2.trans t2)⟩
  | panicked ch=>exact hP.elim
  | outgrown=>exact hP.elim
 | panicked ch=>exact hP.elim
 | outgrown=>exact hP.elim
end Go.Vm
namespace Go.Proofs.YtmonfppdiehlpaaGreatDoor.Aw
open Go Go.Vm Go.RowKit Go.Lib
theorem nf_rel0 {ρ:Rho} {lab:Lab} {w:World} {v:V} {x:Value} (h:Rel ρ lab w v x) (hn:NF v):Rel rho0 lab0 w v x:=NF.rel (fun _ _ _=>rfl) h hn
theorem a9l {p:Prop} (h:p):Hid p:=h
def b3L (c:List V) (s:List UInt8):Prop:=∃ H1 H2,E b1a (.call 56 [.ptr 0 0,.agg c]) hp1 = some (.ret (.tuple []) H1) /\ E b1a (.call 58 [.ptr 0 0]) H1 = some (.ret (.str s) H2)
def printed (l:List (List UInt8)):List UInt8:=(l.map (· ++ [10])).flatten
theorem b7v {l:List (List UInt8)} {k:Nat} {s:List UInt8} (h:l[k]? = some s):printed (l.take (k + 1)) = printed (l.take k) ++ s ++ [10]:=by
 unfold printed
 rw [List.take_add_one,h]
 simp
theorem b9S (l:List (List UInt8)) (k:Nat):(printed (l.take k)).length <= (printed l).length:=by
 have h:printed l = printed (l.take k) ++ printed (l.drop k):=by
  unfold printed
  rw [<- List.flatten_append,<- List.map_append,List.take_append_drop]
 rw [h,List.length_append]; omega
theorem bld_kept {T e:TypeId} {B0 b:Nat} {bs:List Value} {w w':World} (h:IsBuilder T e B0 b bs w) (hk:∀ k,k < w.heap.size -> w'.heap[k]? = w.heap[k]?):IsBuilder T e B0 b bs w':=by
 have key:∀ {p:Value},BuilderAt T e B0 b p bs w -> BuilderAt T e B0 b p bs w':=by
  rintro p ⟨h1,v,h2,h3,h4⟩
  have hb:b < w.heap.size:=by
   rcases Nat.lt_or_ge b w.heap.size with h | h
   ·exact h
   ·rw [Array.getElem?_eq_none h] at h2; cases h2
  refine ⟨h1,v,(hk b hb).trans h2,?_,h4⟩
  refine ⟨h3.1,?_⟩
  rcases h3.2 with h5 | ⟨g,cap,cur,h5,h6,h7,h8⟩
  ·exact .inl h5
  ·have hg:g < w.heap.size:=by
    rcases Nat.lt_or_ge g w.heap.size with h | h
    ·exact h
    ·rw [Array.getElem?_eq_none h] at h7; cases h7
   exact .inr ⟨g,cap,cur,h5,h6,(hk g hg).trans h7,h8⟩
 rcases h with h | h
 ·exact .inl (key h)
 ·exact .inr (key h)
theorem b8A (T e:TypeId) (B0:Nat) (w:World) (hB:B0 <= w.heap.size):IsBuilder T e B0 w.heap.size [] (w.alloc (.cells #[.pointer none,.slice none 0 0] T)):=by
 have key:∀ {p:Value},BuilderAt T e w.heap.size w.heap.size p [] (w.alloc (.cells #[.pointer none,.slice none 0 0] T)) -> BuilderAt T e B0 w.heap.size p [] (w.alloc (.cells #[.pointer none,.slice none 0 0] T)):=by
  rintro p ⟨h1,v,h2,h3,h4⟩
  refine ⟨hB,v,h2,⟨h3.1,?_⟩,h4⟩
  rcases h3.2 with h5 | ⟨g,cp,cur,h5,h6,r⟩
  ·exact .inl h5
  ·exact .inr ⟨g,cp,cur,h5,by omega,r⟩
 rcases fresh_isBuilder T e w with h | h
 ·exact .inl (key h)
 ·exact .inr (key h)
structure Kid (w:World) (b o:Nat) (s:List UInt8) (k:Nat):Prop where
 ex:∃ c y0 y1 y2 y3 y4 y5 y6 y7 y8 y9,w.cell? ⟨b,o + k * 10,none⟩ = some y0 /\ w.cell? ⟨b,o + k * 10 + 1,none⟩ = some y1 /\ w.cell? ⟨b,o + k * 10 + 2,none⟩ = some y2 /\ w.cell? ⟨b,o + k * 10 + 3,none⟩ = some y3 /\
  w.cell? ⟨b,o + k * 10 + 4,none⟩ = some y4 /\ w.cell? ⟨b,o + k * 10 + 5,none⟩ = some y5 /\ w.cell? ⟨b,o + k * 10 + 6,none⟩ = some y6 /\ w.cell? ⟨b,o + k * 10 + 7,none⟩ = some y7 /\ w.cell? ⟨b,o + k * 10 + 8,none⟩ = some y8 /\ w.cell? ⟨b,o + k * 10 + 9,none⟩ = some y9 /\
  Rel rho0 lab0 w (.agg c) (.agg #[y0,y1,y2,y3,y4,y5,y6,y7,y8,y9]) /\ b3L c s /\ ∀ y ∈ [y0,y1,y2,y3,y4,y5,y6,y7,y8,y9],y.oneCell' = true
theorem b9t {a b:Nat} {w w':World} (h:a <= b) (hB:Below b w w'):Below a w w':=⟨hB.os,hB.tape,hB.output,hB.size,fun k hk=>hB.block k (by omega)⟩
theorem b7f (w:World) (cs:Array Value) (t:TypeId) (i:Nat) (v:Value) (hi:i < cs.size) (hv:v.oneCell' = true):(store ⟨w.heap.size,i,none⟩ v).run Tryz.prog (w.alloc (.cells cs t)) = .ok () (w.alloc (.cells (cs.setIfInBounds i v) t)):=by
 have h1:(w.alloc (.cells cs t)).cell? ⟨w.heap.size,i,none⟩ = some cs[i]:=by simp [hi]
 have h2:(w.alloc (.cells cs t)).frozen? ⟨w.heap.size,i,none⟩ = false:=by simp
 rw [run_store _ _ _ _ _ hv]
 simp [stored,go_sem,h1,h2,World.setCell_alloc_new]
theorem b9O (v0 v1 v2 v3 v4 v5 v6 v7 v9:Value) (ao:Option Addr) (b o cap:Nat) (l:List (List UInt8)) (w:World) (hn:l.length <= cap) (hao:0 < l.length -> ao = some ⟨b,o,none⟩)
  (hb:0 < l.length -> b < w.heap.size) (hN:l.length <= 140737488355328) (hK:∀ (k:Nat) s,l[k]? = some s -> Kid w b o s k) (hlen:(printed l).length <= 140737488355328) :
  Calls Tryz.prog 20 #[.agg #[v0,v1,v2,v3,v4,v5,v6,v7,.slice ao l.length cap,v9]] w fun e w'=>e = .returned (.string ⟨(printed l).toArray⟩) /\ Below w.heap.size w w':=by
 have HK:=a9l hK
 have Hlen:=a9l hlen
 have Hao:=a9l hao
 have Hb:=a9l hb
 clear hK hlen hao hb
 go_enter Tryz.func20,Tryz.ntmps20
 go_wp2_with fail
 go_loopw [10] (fun i wr=>∃ k:Nat,k <= l.length /\ i = .int .i64 k /\ Hid (IsBuilder 83 5 w.heap.size (w.heap.size + 1) (byteCells (printed (l.take k))) wr) /\ Hid (Below w.heap.size w wr)) (fun i _=>l.length - (RowKit.intOf i).toNat)
 case atStart =>
  refine ⟨0,Nat.zero_le _,rfl,a9l ?_,a9l ?_⟩
  ·have:=b8A 83 5 w.heap.size (w.alloc (.cells #[v0,v1,v2,v3,v4,v5,v6,v7,.slice ao l.length cap,v9] 29)) (by rw [World.size_alloc]; omega)
   rw [World.size_alloc] at this
   exact this
  ·exact ((Below.refl w.heap.size w).alloc (Nat.le_refl _) _).alloc (by rw [World.size_alloc]; omega) _
 case round =>
  obtain ⟨k,hk,rfl,HB,HW⟩:=hrel
  by_cases hkn:k < l.length
  ·obtain ⟨s,hs⟩:∃ s,l[k]? = some s:=⟨l[k],List.getElem?_eq_getElem hkn⟩
   have hao:=Hao.out (by omega)
   subst hao
   have hbw:=Hb.out (by omega)
   obtain ⟨c,y0,y1,y2,y3,y4,y5,y6,y7,y8,y9,c0,c1,c2,c3,c4,c5,c6,c7,c8,c9,hr,hline,hone⟩:=(HK.out k s hs).ex
   have cc:∀ j,wr.cell? ⟨b,j,none⟩ = w.cell? ⟨b,j,none⟩:=fun j=>HW.out.cell (p:=⟨b,j,none⟩) hbw
   rw [<- cc] at c0 c1 c2 c3 c4 c5 c6 c7 c8 c9
   obtain ⟨H1,H2,q1,q2⟩:=hline
   have Q1:=a9l q1
   have Q2:=a9l q2
   have HR:=a9l hr
   have Hs:=a9l hs
   have hBw:=HW.out.size
   clear q1 q2 hr hs cc
   go_wp2_with fail
   rw [b7f _ _ _ _ _ (by simp) (hone _ (by simp))]
   simp only [Result.andThen]
   repeat (rw [b7f _ _ _ _ _ (by simp) (hone _ (by simp))]; simp only [Result.andThen])
   have hset:((((((((((#[Value.int .i64 0,.string { data:=#[] },.int .i64 0,.int .i64 0,.string { data:=#[] },.int .i64 0,.slice none 0 0,.slice none 0 0,.slice none 0 0,.int .i64 0].setIfInBounds 0 y0).setIfInBounds 1 y1).setIfInBounds 2 y2).setIfInBounds 3 y3).setIfInBounds 4 y4).setIfInBounds 5 y5).setIfInBounds 6 y6).setIfInBounds 7 y7).setIfInBounds 8 y8).setIfInBounds 9 y9) = #[y0,y1,y2,y3,y4,y5,y6,y7,y8,y9]:=by simp
   rw [hset]
   clear hset
   go_wp2_with fail
   have hsz:((wr.alloc (.cells #[y0,y1,y2,y3,y4,y5,y6,y7,y8,y9] 29)).alloc (.cells #[.slice none 0 0] 87)).heap.size = wr.heap.size + 2:=by rw [World.size_alloc,World.size_alloc]
   have hold:∀ j,j < wr.heap.size -> ((wr.alloc (.cells #[y0,y1,y2,y3,y4,y5,y6,y7,y8,y9] 29)).alloc (.cells #[.slice none 0 0] 87)).heap[j]? = wr.heap[j]?:=fun j hj =>
    (alloc_old _ _ j (by rw [World.size_alloc]; omega)).trans (alloc_old _ _ j hj)
   have hcW:((wr.alloc (.cells #[y0,y1,y2,y3,y4,y5,y6,y7,y8,y9] 29)).alloc (.cells #[.slice none 0 0] 87)).cell? ⟨wr.heap.size + 1,0,none⟩ = some (.slice none 0 0):=by
    have:=World.cell?_alloc_new (wr.alloc (.cells #[y0,y1,y2,y3,y4,y5,y6,y7,y8,y9] 29)) #[.slice none 0 0] 87 0
    rw [World.size_alloc] at this
    exact this
   have hzW:((wr.alloc (.cells #[y0,y1,y2,y3,y4,y5,y6,y7,y8,y9] 29)).alloc (.cells #[.slice none 0 0] 87)).frozen? ⟨wr.heap.size + 1,0,none⟩ = false:=by
    have:=World.frozen?_alloc_new (wr.alloc (.cells #[y0,y1,y2,y3,y4,y5,y6,y7,y8,y9] 29)) #[.slice none 0 0] 87 0
    rw [World.size_alloc] at this
    exact this
   refine (c1t envOk0 Q1.out Q2.out (w0:=w) (w:=((wr.alloc (.cells #[y0,y1,y2,y3,y4,y5,y6,y7,y8,y9] 29)).alloc (.cells #[.slice none 0 0] 87))) (B:=wr.heap.size + 1) (by omega) (fun j hj=>(hold j (by omega)).trans (HW.out.block j hj)) hcW hzW HR.out).mono ?_
   rintro e w1 ⟨rfl,hw1,C2⟩
   have CC:=a9l C2
   clear C2 hcW hzW
   go_wp2_with fail
   refine CC.out.mono ?_
   rintro e w2 ⟨rfl,hw2⟩
   have hk2:∀ j,j < wr.heap.size -> w2.heap[j]? = wr.heap[j]?:=fun j hj=>(hw2.blk j (by omega) (by omega)).trans (hold j hj)
   have hs2:wr.heap.size <= w2.heap.size:=by have:=hw2.size; omega
   have hlen:=Hlen.out
   have hlk:=b9S l (k + 1)
   have hpt:=b7v Hs.out
   rw [hpt,List.length_append,List.length_append,List.length_singleton] at hlk
   have HB2:=a9l (bld_kept HB.out hk2)
   have HW2:=a9l (⟨hw2.os,hw2.tape,hw2.output,hs2,fun j hj=>hk2 j (by omega)⟩:Below wr.heap.size wr w2)
   have Hpt:=a9l hpt
   clear hw1 hw2 hk2 CC hold hsz hpt
   go_wp2_with fail
   refine (Tryz.Builder_WriteString w.heap.size (w.heap.size + 1) _ ⟨⟨s⟩⟩ w2 HB2.out (by rw [byteCells_length]; simp only [ByteArray.size]; simp; omega) (by omega)).mono ?_
   rintro e w3 ⟨rfl,h3,hb3⟩
   have H3:=a9l h3
   have Hb3:=a9l hb3
   clear h3 hb3
   go_wp2_with fail
   refine (Tryz.Builder_WriteByte w.heap.size (w.heap.size + 1) _ 10 w3 (.inr H3.out) (by rw [List.length_append,byteCells_length,strCells_length]; simp only [ByteArray.size]; simp; omega) (by have:=Hb3.out.size; omega)).mono ?_
   rintro e w4 ⟨rfl,h4,hb4⟩
   have hnext:byteCells (printed (l.take k)) ++ strCells ⟨⟨s⟩⟩ ++ [.int .u8 10] = byteCells (printed (l.take (k + 1))):=by
    rw [Hpt.out,strCells_eq,byteCells_append,byteCells_append]
    rfl
   rw [hnext] at h4
   have H4:=a9l (Or.inr h4:IsBuilder 83 5 w.heap.size (w.heap.size + 1) _ w4)
   have Hb4:=a9l ((HW.out.trans (b9t hBw HW2.out)).trans (Hb3.out.trans hb4))
   clear h4 hb4 hnext
   go_wp2
   exact ⟨⟨k + 1,by omega,by go_num,H4,Hb4⟩,by simp [RowKit.intOf]; omega⟩
  ·have hke:k = l.length:=by omega
   subst hke
   have hB':=HB.out
   rw [List.take_length] at hB'
   have hBw:=HW.out.size
   have HB2:=a9l hB'
   clear hB'
   go_wp2_with fail
   refine (Tryz.Builder_String_any w.heap.size (w.heap.size + 1) _ wr HB2.out hBw).mono ?_
   rintro e w5 ⟨rfl,hb5⟩
   have Hb5:=a9l (HW.out.trans hb5)
   clear hb5
   go_wp2
   go_ret
   exact ⟨rfl,Hb5.out⟩
theorem b9Z {c:List V} {s s':List UInt8} (h:b3L c s) (g:b3L c s'):s = s':=by
 obtain ⟨H1,H2,a1,a2⟩:=h
 obtain ⟨K1,K2,b1,b2⟩:=g
 rw [a1] at b1
 cases b1
 rw [a2] at b2
 cases b2
 rfl
inductive Lines:List V -> List (List UInt8) -> Prop
 | nil:Lines [] []
 | cons (c r:List V) (s:List UInt8) (l:List (List UInt8)):c.length = 10 -> b3L c s -> Lines r l -> Lines (c ++ r) (s :: l)
theorem Lines.det {cs:List V} {l:List (List UInt8)} (h:Lines cs l):∀ {l'},Lines cs l' -> l = l':=by
 induction h with
 | nil =>
  intro l' g
  generalize hq:([]:List V) = q at g
  cases g with
  | nil=>rfl
  | cons c r s l h1 h2 h3 =>
   have:=congrArg List.length hq
   rw [List.length_append] at this
   simp at this
   omega
 | cons c r s l h1 h2 h3 ih =>
  intro l' g
  generalize hq:c ++ r = q at g
  cases g with
  | nil =>
   have:=congrArg List.length hq
   rw [List.length_append,h1] at this
   simp only [List.length_nil] at this
   omega
  | cons c' r' s' l'' g1 g2 g3 =>
   obtain ⟨rfl,rfl⟩:=List.append_inj hq (by rw [h1,g1])
   rw [b9Z h2 g2,ih g3]
theorem Lines.get {cs:List V} {l:List (List UInt8)} (h:Lines cs l):∀ {k:Nat} {s:List UInt8},l[k]? = some s -> b3L ((cs.drop (k * 10)).take 10) s /\ k * 10 + 10 <= cs.length:=by
 induction h with
 | nil=>intro k s h; simp at h
 | cons c r s0 l h1 h2 h3 ih =>
  intro k s hk
  cases k with
  | zero =>
   simp only [List.getElem?_cons_zero,Option.some.injEq] at hk
   subst hk
   refine ⟨?_,by rw [List.length_append]; omega⟩
   rw [Nat.zero_mul,List.drop_zero,List.take_append_of_le_length (by omega),List.take_of_length_le (by omega)]
   exact h2
  | succ k =>
   simp only [List.getElem?_cons_succ] at hk
   obtain ⟨g1,g2⟩:=ih hk
   refine ⟨?_,by rw [List.length_append]; omega⟩
   rw [show (k + 1) * 10 = c.length + k * 10 from by omega,<- List.drop_drop,List.drop_left]
   exact g1
noncomputable def b2f:List V -> Hp -> Option Out:=fun args H=>match args with
 | [.agg [_,_,_,_,_,_,_,_,.slice _ n cs,_]]=>@dite _ (∃ l,Lines cs l /\ l.length = n /\ l.length <= 140737488355328 /\ (printed l).length <= 140737488355328) (Classical.propDecidable _) (fun h=>some (.ret (.str (printed h.choose)) H)) (fun _=>none)
 | _=>none
theorem c1I {c0 c1 c2 c3 c4 c5 c6 c7 c9:V} {ow:Own} {n:Nat} {cs:List V} {l:List (List UInt8)} {H:Hp} (h:Lines cs l) (hn:l.length = n) (hN:l.length <= 140737488355328) (hl:(printed l).length <= 140737488355328) :
  b2f [.agg [c0,c1,c2,c3,c4,c5,c6,c7,.slice ow n cs,c9]] H = some (.ret (.str (printed l)) H):=by
 have hex:∃ l,Lines cs l /\ l.length = n /\ l.length <= 140737488355328 /\ (printed l).length <= 140737488355328:=⟨l,h,hn,hN,hl⟩
 have he:hex.choose = l:=(h.det hex.choose_spec.1).symm
 simp only [b2f]
 rw [dif_pos hex,he]
theorem ten {α:Type} (l:List α) (h:l.length = 10):∃ y0 y1 y2 y3 y4 y5 y6 y7 y8 y9,l = [y0,y1,y2,y3,y4,y5,y6,y7,y8,y9]:=by
 match l,h with
 | [y0,y1,y2,y3,y4,y5,y6,y7,y8,y9],_=>exact ⟨_,_,_,_,_,_,_,_,_,_,rfl⟩
theorem print_ok:b0V Tryz.prog 20 b2f:=by
 refine ⟨fun args H out h ρ lab w xs hc hS hx=>?_,⟨_,_,Tryz.func20,rfl,rfl⟩⟩
 unfold b2f at h
 split at h
 ·rename_i c0 c1 c2 c3 c4 c5 c6 c7 ow n cs c9
  split at h
  ·rename_i hex
   cases h
   obtain ⟨hL,hn,hN,hlen⟩:=hex.choose_spec
   generalize hex.choose = l at hL hn hN hlen
   obtain ⟨x1,r1,rfl,a1,a2⟩:=H9.1 hx
   have:r1 = []:=by have:=a2.1; simpa using this
   subst this
   cases a1 with
   | agg _ vs e1 e2 =>
   obtain ⟨v0,v1,v2,v3,v4,v5,v6,v7,v8,v9,rfl⟩:=ten vs (by rw [e1]; rfl)
   have q8:=e2 8 _ _ rfl rfl
   cases q8 with
   | slice _ _ _ ys b o ao cap g1 g2 g3 g4 g5 g6 g7 g8 g9 =>
   subst hn
   have K:=b9O v0 v1 v2 v3 v4 v5 v6 v7 v9 ao b o cap l w g2 g3 (fun h0=>?_) hN (fun k s hk=>⟨?_⟩) hlen
   ·refine K.mono fun e w' ⟨he,hw⟩=>?_
    subst he
    have G:a1i w w':=⟨hw.size,hw.os,hw.tape,hw.output,fun b hb=>hw.block b hb⟩
    exact ⟨ρ,lab,hS.grew G,G.ext lab,⟨fun _ _ _ h=>h,fun _ _ _ _ h=>h⟩,.str _,hc,Nat.le_refl _⟩
   ·obtain ⟨_,h2⟩:=hL.get (List.getElem?_eq_getElem h0)
    have hy:0 < ys.length:=by rw [g1]; omega
    have:=g5 0 ys[0] (by simp [hy])
    exact a1m this.cell
   ·obtain ⟨h1,h2⟩:=hL.get hk
    have hlen2:((ys.drop (k * 10)).take 10).length = 10:=by
     rw [List.length_take,List.length_drop,g1]; omega
    obtain ⟨y0,y1,y2,y3,y4,y5,y6,y7,y8,y9,hy⟩:=ten _ hlen2
    have get:∀ j,j < 10 -> ∀ y,[y0,y1,y2,y3,y4,y5,y6,y7,y8,y9][j]? = some y -> ys[k * 10 + j]? = some y:=by
     intro j hj y hyj
     rw [<- hy,List.getElem?_take,if_pos hj,List.getElem?_drop] at hyj
     exact hyj
    have cell:∀ j,j < 10 -> ∀ y,[y0,y1,y2,y3,y4,y5,y6,y7,y8,y9][j]? = some y -> w.cell? ⟨b,o + k * 10 + j,none⟩ = some y:=by
     intro j hj y hyj
     have:=(g5 _ _ (get j hj y hyj)).cell
     rw [<- Nat.add_assoc] at this
     exact this
    refine ⟨(cs.drop (k * 10)).take 10,y0,y1,y2,y3,y4,y5,y6,y7,y8,y9,cell 0 (by omega) _ rfl,cell 1 (by omega) _ rfl,cell 2 (by omega) _ rfl,cell 3 (by omega) _ rfl,cell 4 (by omega) _ rfl,cell 5 (by omega) _ rfl,cell 6 (by omega) _ rfl,cell 7 (by omega) _ rfl,cell 8 (by omega) _ rfl,cell 9 (by omega) _ rfl,?_,h1,?_⟩
    ·refine .agg _ [y0,y1,y2,y3,y4,y5,y6,y7,y8,y9] ?_ (fun i v x hv hx=>?_)
     ·rw [List.length_take,List.length_drop]
      show 10 = _
      omega
     ·have hi:i < 10:=by
       rcases Nat.lt_or_ge i 10 with h | h
       ·exact h
       ·rw [List.getElem?_eq_none (by simpa using h)] at hx; cases hx
      rw [List.getElem?_take,if_pos hi,List.getElem?_drop] at hv
      exact nf_rel0 (g6 _ _ _ hv (get i hi x hx)) (g9 v (List.mem_of_getElem? hv))
    ·intro y hyy
     obtain ⟨j,hj,rfl⟩:=List.mem_iff_getElem.1 hyy
     exact g8 _ (List.mem_of_getElem? (get j (by simpa using hj) _ (by simp [hj])))
  ·cases h
 ·cases h
end Go.Proofs.YtmonfppdiehlpaaGreatDoor.Aw
namespace Go.Proofs.YtmonfppdiehlpaaGreatDoor.Aw
open Go Go.Vm
noncomputable def b5w:Nat -> Option Hand
 | 61=>some (.plain b6M)
 | 20=>some (.plain b2f)
 | 41=>some (.via gPre b69)
 | _=>none
noncomputable def env:Env:={ P:=Tryz.prog,T:=T,keep:=keep,byref:=fun _ _=>none,meth:=fun _ _=>none,tags:=fun g=>has g tagL,argTags:=fun g=>has g argL,quiet:=fun g=>has g b2i,loose:=fun _=>false,ok:=fun g=>has g okL,cut:=cut,b1A:=b1A,a6H:=a6H,sep:=sep,mask:=mask,look:=fun g=>has g b8Z,frz:=fun g=>has g b4s,slk:=slk,full:=true,intr:=b5w }
theorem codes:b1R env okL = true:=by kernel_rfl
theorem b56:a8m env:=by
 intro _ _ _ h
 cases h
theorem b6H:a8g env:=⟨b56,b1p tys,mixed,a9e (fun _ h=>h) codes,(fun g h hg=>by simp only [env,b5w] at hg; split at hg <;> first | (cases hg; done) | (cases hg; exact b4E) | (cases hg; exact print_ok)),(fun g pre post hg=>by simp only [env,b5w] at hg; split at hg <;> first | (cases hg; done) | (cases hg; exact a7U))⟩
end Go.Proofs.YtmonfppdiehlpaaGreatDoor.Aw
namespace Go.Proofs.YtmonfppdiehlpaaGreatDoor.Aw
open Go Go.Vm
def srcA:List UInt8:=[102,117,110,99,32,102,40,120,58,32,73,110,116,41,32,45,62,32,73,110,116,32,123,32,114,101,116,117,114,110,32,120,32,43,32,50,32,42,32,51,59,32,125]
def decA:List V:=[.i 7,.str [102],.i 1,.i 1,.str [],.i 0,.slice .sealed 0 [],.slice .sealed 0 [],.slice .sealed 2 [.i 10,.str [120],.i 0,.i 1,.str [],.i 0,.slice .sealed 0 [],.slice .sealed 0 [],.slice .sealed 0 [],.i 7,.i 20,.str [],.i 0,.i 0,.str [],.i 0,.slice .sealed 0 [],.slice .sealed 0 [],.slice .sealed 1 [.i 28,.str [],.i 0,.i 0,.str [],.i 0,.slice .sealed 0 [],.slice .sealed 0 [],.slice .sealed 1 [.i 64,.str [43],.i 0,.i 0,.str [],.i 0,.slice .sealed 0 [],.slice .sealed 0 [],.slice .sealed 2 [.i 54,.str [120],.i 0,.i 0,.str [],.i 0,.slice .sealed 0 [],.slice .sealed 0 [],.slice .sealed 0 [],.i 31,.i 64,.str [42],.i 0,.i 0,.str [],.i 0,.slice .sealed 0 [],.slice .sealed 0 [],.slice .sealed 2 [.i 50,.str [],.i 2,.i 0,.str [],.i 0,.slice .sealed 0 [],.slice .sealed 0 [],.slice .sealed 0 [],.i 35,.i 50,.str [],.i 3,.i 0,.str [],.i 0,.slice .sealed 0 [],.slice .sealed 0 [],.slice .sealed 0 [],.i 39],.i 35],.i 31],.i 24],.i 22],.i 0]
def cellsA:List V:=[.i 1,.str [],.i 0,.i 0,.str [],.i 0,.slice .sealed 0 [],.slice .sealed 0 [],.slice .sealed 1 [.i 7,.str [102],.i 1,.i 1,.str [],.i 0,.slice .sealed 0 [],.slice .sealed 0 [],.slice .sealed 2 [.i 10,.str [120],.i 0,.i 1,.str [],.i 0,.slice .sealed 0 [],.slice .sealed 0 [],.slice .sealed 0 [],.i 7,.i 20,.str [],.i 0,.i 0,.str [],.i 0,.slice .sealed 0 [],.slice .sealed 0 [],.slice .sealed 1 [.i 28,.str [],.i 0,.i 0,.str [],.i 0,.slice .sealed 0 [],.slice .sealed 0 [],.slice .sealed 1 [.i 64,.str [43],.i 0,.i 0,.str [],.i 0,.slice .sealed 0 [],.slice .sealed 0 [],.slice .sealed 2 [.i 54,.str [120],.i 0,.i 0,.str [],.i 0,.slice .sealed 0 [],.slice .sealed 0 [],.slice .sealed 0 [],.i 31,.i 64,.str [42],.i 0,.i 0,.str [],.i 0,.slice .sealed 0 [],.slice .sealed 0 [],.slice .sealed 2 [.i 50,.str [],.i 2,.i 0,.str [],.i 0,.slice .sealed 0 [],.slice .sealed 0 [],.slice .sealed 0 [],.i 35,.i 50,.str [],.i 3,.i 0,.str [],.i 0,.slice .sealed 0 [],.slice .sealed 0 [],.slice .sealed 0 [],.i 39],.i 35],.i 31],.i 24],.i 22],.i 0],.i 0]
def hpA:Hp:=[(0,.row [.slice (.tag 1) 22 [.str [102,117,110,99],.str [102],.str [40],.str [120],.str [58],.str [73,110,116],.str [41],.str [45,62],.str [73,110,116],.str [123],.str [114,101,116,117,114,110],.str [40],.str [120],.str [43],.str [40],.str [50],.str [42],.str [51],.str [41],.str [41],.str [59],.str [125]]]),(1,.tip 1 22)]
def hpB:Hp:=[(0,.row [.slice (.tag 1) 22 [.str [102,117,110,99],.str [102],.str [40],.str [120],.str [58],.str [73,110,116],.str [41],.str [45,62],.str [73,110,116],.str [123],.str [114,101,116,117,114,110],.str [40],.str [120],.str [43],.str [40],.str [50],.str [42],.str [51],.str [41],.str [41],.str [59],.str [125]]]),(1,.tip 1 22)]
def b3O:List UInt8:=[102,117,110,99,32,102,32,40,32,120,32,58,32,73,110,116,32,41,32,45,62,32,73,110,116,32,123,32,114,101,116,117,114,110,32,40,32,120,32,43,32,40,32,50,32,42,32,51,32,41,32,41,32,59,32,125]
def b5v:Nod:=⟨1,[],0,⟨0,[],0,[]⟩,[],[⟨7,[102],1,⟨1,[],0,[]⟩,[],[⟨10,[120],0,⟨1,[],0,[]⟩,[],[],7⟩,⟨20,[],0,⟨0,[],0,[]⟩,[],[⟨28,[],0,⟨0,[],0,[]⟩,[],[⟨64,[43],0,⟨0,[],0,[]⟩,[],[⟨54,[120],0,⟨0,[],0,[]⟩,[],[],31⟩,⟨64,[42],0,⟨0,[],0,[]⟩,[],[⟨50,[],2,⟨0,[],0,[]⟩,[],[],35⟩,⟨50,[],3,⟨0,[],0,[]⟩,[],[],39⟩],35⟩],31⟩],24⟩],22⟩],0⟩],0⟩
theorem modA_run:run env 400 (.call 13 [.str srcA]) [] = some (.ret (.tuple [.agg cellsA,.slice .sealed 0 []]) []):=by kernel_rfl
theorem c1e:run b1a 400 (.call 56 [.ptr 0 0,.agg decA]) hp1 = some (.ret (.tuple []) hpA):=by kernel_rfl
theorem c1m:run b1a 400 (.call 58 [.ptr 0 0]) hpA = some (.ret (.str b3O) hpB):=by kernel_rfl
theorem modA_enc:(some (.ret (.tuple [.agg cellsA,.slice .sealed 0 []]) []):Option Out) = some (.ret (.tuple [.agg (b0e b5v),.slice .sealed 0 (b6U [])]) []):=by kernel_rfl
theorem modA_E:E env (.call 13 [.str srcA]) [] = some (.ret (.tuple [.agg (b0e b5v),.slice .sealed 0 (b6U [])]) []):=((a2j env).le 400 _ _ _ modA_run).trans modA_enc
theorem lineA_ok:b3L decA b3O:=⟨hpA,hpB,(a2j b1a).le 400 _ _ _ c1e,(a2j b1a).le 400 _ _ _ c1m⟩
theorem linesA:Lines (decA ++ []) [b3O]:=.cons decA [] b3O [] (by kernel_rfl) lineA_ok .nil
theorem printA_E:E env (.call 20 [.agg (b0e b5v)]) [] = some (.ret (.str (printed [b3O])) []):=by
 refine b7Q ?_
 have hi:env.intr 20 = some (.plain b2f):=rfl
 show (match env.intr 20 with
  | some (.plain h)=>h [.agg (b0e b5v)] []
  | some (.via pre post)=>match pre [.agg (b0e b5v)] [] with
   | some (g',l,H')=>match E env (.call g' l) H' with
    | some o=>post [.agg (b0e b5v)] [] o
    | none=>none
   | none=>none
  | none=>a4i env (E env) 20 [.agg (b0e b5v)] []) = _
 rw [hi]
 show b2f _ _ = _
 have hc:(b0e b5v) = [.i 1,.str [],.i 0,.i 0,.str [],.i 0,.slice .sealed 0 [],.slice .sealed 0 [],.slice .sealed 1 (decA ++ []),.i 0]:=by kernel_rfl
 rw [hc]
 exact c1I linesA rfl (by decide) (by decide)
end Go.Proofs.YtmonfppdiehlpaaGreatDoor.Aw
namespace Go.Proofs.YtmonfppdiehlpaaGreatDoor.Aw
open Go Go.Vm
def modG (a1K:Str):Option (Nod × List Flt):=match decide (a1K = srcA) with
 | true=>some (b5v,[])
 | false=>none
noncomputable def b5H (n1:Nod):Option Str:=match E env (.call 20 [.agg (c0 n1.op n1.s n1.n n1.t.kind n1.t.name n1.t.n (.sl l6 n1.t.args) (.sl l6 n1.ts) (.sl A9 n1.l) n1.at_)]) [] with
 | some (.ret (.str s) [])=>some s
 | _=>none
end Go.Proofs.YtmonfppdiehlpaaGreatDoor.Aw
namespace Go.Proofs.YtmonfppdiehlpaaGreatDoor.Aw
open Go Go.Vm
noncomputable def a8b:Option (Bool) :=
 (modG [102,117,110,99,32,102,40,120,58,32,73,110,116,41,32,45,62,32,73,110,116,32,123,32,114,101,116,117,114,110,32,120,32,43,32,50,32,42,32,51,59,32,125]).bind fun (nn1,ll2) =>
 cond (eqB (List.length ll2:Int) 0) (
 (b5H nn1).bind fun rr3 =>
 some ((eqS rr3 [102,117,110,99,32,102,32,40,32,120,32,58,32,73,110,116,32,41,32,45,62,32,73,110,116,32,123,32,114,101,116,117,114,110,32,40,32,120,32,43,32,40,32,50,32,42,32,51,32,41,32,41,32,59,32,125,10]))) (
 some (false))
def b4i:Bool -> Out
 | Y4=>.ret (.bool Y4) []
end Go.Proofs.YtmonfppdiehlpaaGreatDoor.Aw
namespace Go.Proofs.YtmonfppdiehlpaaGreatDoor.Aw
open Go Go.Vm
theorem modG_ok {a1K:Str} {nn:Nod} {ll:List Flt} (h:modG a1K = some (nn,ll)):E env (.call 13 [.str a1K]) [] = some (.ret (.tuple [.agg (c0 nn.op nn.s nn.n nn.t.kind nn.t.name nn.t.n (.sl l6 nn.t.args) (.sl l6 nn.ts) (.sl A9 nn.l) nn.at_),.sl b6U ll]) []):=by
 unfold modG at h
 split at h
 ·rename_i hs
  have hs:=of_decide_eq_true hs
  subst hs
  cases h
  exact modA_E
 ·cases h
theorem c1P {n1:Nod} {rr:Str} (h:b5H n1 = some rr):E env (.call 20 [.agg (c0 n1.op n1.s n1.n n1.t.kind n1.t.name n1.t.n (.sl l6 n1.t.args) (.sl l6 n1.ts) (.sl A9 n1.l) n1.at_)]) [] = some (.ret (.str rr) []):=by
 unfold b5H at h
 split at h
 ·rename_i he
  cases h
  exact he
 ·cases h
end Go.Proofs.YtmonfppdiehlpaaGreatDoor.Aw
namespace Go.Proofs.YtmonfppdiehlpaaGreatDoor.Aw
open Go Go.Vm
theorem b5K {r:Bool} (h:a8b = some r) :
  E env (.call 12 []) [] = some (b4i r):=by
 unfold a8b at h
 refine F4 rfl Tryz.func12 rfl rfl ?_
 refine eSG (oB 1 rfl (eSG ?_))
 obtain ⟨⟨nn1,ll2⟩,g1,h⟩:=j5 h
 obtain ⟨nn1_0,nn1_1,nn1_2,⟨nn1_3,nn1_4,nn1_5,nn1_6⟩,nn1_7,nn1_8,nn1_9⟩:=nn1
 refine F7 rfl rfl rfl rfl rfl (modG_ok g1) rfl ?_
 refine oB 6 rfl (eSG (oA 4 rfl ?_))
 refine D5 rfl rfl rfl (fun g2=>?_) (fun g2=>?_)
 ·replace h:=U3 h g2
  refine oA 1 rfl ?_
  obtain ⟨rr3,g3,h⟩:=j5 h
  refine F7 rfl rfl rfl rfl rfl (c1P g3) rfl ?_
  refine oB 3 rfl ?_
  cases h
  exact o5 ⟨_,_,_,rfl,rfl,rfl⟩
 ·replace h:=U4 h g2
  refine oB 5 rfl ?_
  cases h
  exact o5 ⟨_,_,_,rfl,rfl,rfl⟩
end Go.Proofs.YtmonfppdiehlpaaGreatDoor.Aw
namespace Go.Proofs.YtmonfppdiehlpaaGreatDoor.Aw
open Go Go.Vm
theorem a4j {a b:Int} (h:a = b):eqB a b = true:=by simp [eqB,h]
theorem a2t (s:Str):eqS s s = true:=by simp [eqS]
theorem awake_ok:a8b = some true:=by
 unfold a8b
 have h1:modG [102,117,110,99,32,102,40,120,58,32,73,110,116,41,32,45,62,32,73,110,116,32,123,32,114,101,116,117,114,110,32,120,32,43,32,50,32,42,32,51,59,32,125] = some (b5v,[]):=by
  unfold modG
  rw [show decide (_ = srcA) = true from by decide]
 rw [h1,Option.bind_some]
 simp only [List.length_nil]
 rw [show eqB ((0:Nat):Int) 0 = true from a4j rfl,cond_true]
 have h2:b5H b5v = some (printed [b3O]):=by
  unfold b5H
  have h3:=printA_E
  unfold b0e at h3
  rw [h3]
 rw [h2,Option.bind_some]
 have h4:eqS (printed [b3O]) [102,117,110,99,32,102,32,40,32,120,32,58,32,73,110,116,32,41,32,45,62,32,73,110,116,32,123,32,114,101,116,117,114,110,32,40,32,120,32,43,32,40,32,50,32,42,32,51,32,41,32,41,32,59,32,125,10] = true:=by
  have:printed [b3O] = [102,117,110,99,32,102,32,40,32,120,32,58,32,73,110,116,32,41,32,45,62,32,73,110,116,32,123,32,114,101,116,117,114,110,32,40,32,120,32,43,32,40,32,50,32,42,32,51,32,41,32,41,32,59,32,125,10]:=by decide
  rw [this,a2t]
 rw [h4]
theorem awake_E:E env (.call 12 []) [] = some (.ret (.bool true) []):=b5K awake_ok
def b9J:List V -> Option V:=fun args=>match args with
 | []=>some (.bool true)
 | _=>none
theorem b99:b0V Tryz.prog 12 (valI b9J):=by
 refine b77 b6H (fun args v h=>?_) ⟨_,_,Tryz.func12,by kernel_rfl,rfl⟩
 unfold b9J at h
 split at h
 ·cases h
  exact ⟨rfl,rfl,awake_E⟩
 ·cases h
end Go.Proofs.YtmonfppdiehlpaaGreatDoor.Aw
namespace Go.Proofs.YtmonfppdiehlpaaGreatDoor
open Go Go.Vm
noncomputable def b5w:Nat -> Option Hand
 | 61=>some (.plain b6M)
 | 81=>some (.plain (valI Sc.tokF))
 | 45=>some (.plain (valI Sc.tokF))
 | 12=>some (.plain (valI Aw.b9J))
 | 274=>some (.plain b8i)
 | 41=>some (.via gPre b69)
 | _=>none
noncomputable def env:Env:={ P:=Tryz.prog,T:=T,keep:=keep,byref:=fun _ _=>none,meth:=fun _ _=>none,tags:=fun g=>has g tagL,argTags:=fun g=>has g argL,quiet:=fun g=>has g b2i,loose:=fun _=>false,ok:=fun g=>has g okL,cut:=cut,b1A:=b1A,a6H:=a6H,sep:=sep,mask:=mask,look:=fun g=>has g b8Z,frz:=fun g=>has g b4s,slk:=slk,full:=true,intr:=b5w }
theorem codes:b1R env okL = true:=by kernel_rfl
theorem b56:a8m env:=by
 intro _ _ _ h
 cases h
theorem b6H:a8g env:=⟨b56,b1p tys,mixed,a9e (fun _ h=>h) codes,(fun g h hg=>by simp only [env,b5w] at hg; split at hg <;> first | (cases hg; done) | (cases hg; exact b4E) | (cases hg; exact Sc.tok_intr) | (cases hg; exact Sc.c1N) | (cases hg; exact Aw.b99) | (cases hg; exact b6A)),(fun g pre post hg=>by simp only [env,b5w] at hg; split at hg <;> first | (cases hg; done) | (cases hg; exact a7U))⟩
end Go.Proofs.YtmonfppdiehlpaaGreatDoor
namespace Go.Proofs.YtmonfppdiehlpaaGreatDoor
open Go Go.Vm
theorem b60 {bb:Bool} (h:b9x = some bb):E env (.call 12 []) [] = some (.ret (.bool bb) []):=by
 cases h
 exact b7C rfl rfl
theorem b9L {a1K:Str} {l2:List Tok} {c3:Int} {a4:Int} (h:a92 a1K = some (l2,c3,a4)):E env (.call 81 [.str a1K]) [] = some (.ret (.tuple [.sl q9 l2,.agg [.i c3,.i a4]]) []):=by
 unfold a92 at h
 cases h
 exact b8Q rfl (Sc.a96 _).1
theorem b8o {a1K:Str} {l2:List Tok} {c3:Int} {a4:Int} (h:a92 a1K = some (l2,c3,a4)):E env (.call 45 [.str a1K]) [] = some (.ret (.tuple [.sl q9 l2,.agg [.i c3,.i a4]]) []):=by
 unfold a92 at h
 cases h
 exact b8Q rfl (Sc.a96 _).1
theorem atoi_ok {s1:Str} {n2:Int} (h:atoi s1 = some n2):E env (.call 274 [.str s1]) [] = some (.ret (.tuple [.i n2,.nilIface]) []):=by
 unfold atoi at h
 split at h
 ·rename_i hb
  cases h
  exact b7C rfl (by simp only [b8i,hb])
 ·cases h
end Go.Proofs.YtmonfppdiehlpaaGreatDoor
namespace Go.Proofs.YtmonfppdiehlpaaGreatDoor
open Go Go.Vm
theorem b6h {a1K:Str} {r:Unit} (h:a9z a1K = some r) :
  E env (.call 11 [.str a1K]) [] = some (b4V a1K r):=by
 unfold a9z at h
 refine F4 rfl Tryz.func11 rfl rfl ?_
 refine eSG (oB 1 rfl (eSG (oB 4 rfl ?_)))
 cases h
 exact o5 ⟨_,_,_,rfl,rfl,rfl⟩
structure K5.Ok (Φ:K5):Prop where
 a0C:∀ {a1:Typ} {b2:Typ} {r:Bool},Φ.a0C a1 b2 = some r -> E env (.call 38 [.agg [.i a1.kind,.str a1.name,.i a1.n,.sl l6 a1.args],.agg [.i b2.kind,.str b2.name,.i b2.n,.sl l6 b2.args]]) [] = some (a5X a1 b2 r)
 a0s:∀ {a1:List Typ} {b2:List Typ} {r:Bool},Φ.a0s a1 b2 = some r -> E env (.call 49 [.sl l6 a1,.sl l6 b2]) [] = some (a4g a1 b2 r)
theorem b2M (n:Nat) {Φ:K5} (hΦ:Φ.Ok) {a1:Typ} {b2:Typ} {r:Bool} (h:a4o n Φ a1 b2 = some r) :
  E env (.call 38 [.agg [.i a1.kind,.str a1.name,.i a1.n,.sl l6 a1.args],.agg [.i b2.kind,.str b2.name,.i b2.n,.sl l6 b2.args]]) [] = some (a5X a1 b2 r):=by
 unfold a4o at h
 obtain ⟨a1_0,a1_1,a1_2,a1_3⟩:=a1
 obtain ⟨b2_0,b2_1,b2_2,b2_3⟩:=b2
 refine F4 rfl Tryz.func38 rfl rfl ?_
 refine eSG (oB 3 rfl (eSG (oA 6 rfl ?_)))
 refine D5 rfl rfl rfl (fun g1=>?_) (fun g1=>?_)
 ·replace h:=U3 h g1
  refine oA 7 rfl ?_
  refine D5 rfl rfl rfl (fun g2=>?_) (fun g2=>?_)
  ·replace h:=U3 h g2
   refine oA 7 rfl ?_
   refine D5 rfl rfl rfl (fun g3=>?_) (fun g3=>?_)
   ·replace h:=U3 h g3
    refine oA 4 rfl ?_
    obtain ⟨r3,g4,h⟩:=j5 h
    refine F7 rfl rfl rfl rfl rfl (hΦ.a0s g4) rfl ?_
    refine oB 2 rfl ?_
    cases h
    exact o5 ⟨_,_,_,rfl,rfl,rfl⟩
   ·replace h:=U4 h g3
    refine oB 7 rfl ?_
    cases h
    exact o5 ⟨_,_,_,rfl,rfl,rfl⟩
  ·replace h:=U4 h g2
   refine oB 14 rfl ?_
   cases h
   exact o5 ⟨_,_,_,rfl,rfl,rfl⟩
 ·replace h:=U4 h g1
  refine oB 21 rfl ?_
  cases h
  exact o5 ⟨_,_,_,rfl,rfl,rfl⟩
theorem b2k (n:Nat) {Φ:K5} (hΦ:Φ.Ok) {a1:List Typ} {b2:List Typ} {r:Bool} (h:a3V n Φ a1 b2 = some r) :
  E env (.call 49 [.sl l6 a1,.sl l6 b2]) [] = some (a4g a1 b2 r):=by
 unfold a3V at h
 refine F4 rfl Tryz.func49 rfl rfl ?_
 refine eSG (oB 1 rfl (p8 (eSG (oB 5 rfl ?_))))
 refine eI rfl h (fun h=>?_) fun h=>?_
 ·refine eSG (oB 1 rfl ?_)
  cases h
  exact o5 ⟨_,_,_,rfl,rfl,rfl⟩
 ·refine o8 ?_
  obtain ⟨y2,g3,h⟩:=O4 h
  refine Q6 (KR:=fun r=>a2s env 49 0 Tryz.f49.results.toList (a4g a1 b2 r)) y2 (fun z9=>[]) (fun z9=>[]) rfl ?_ (fun z9 hx=>?_) (fun r res hz hr hn=>?_)
  ·replace h:=g3
   clear g3
   refine eSG (oB 1 rfl ?_)
   refine C9 ?_
   refine P7 rfl ?_
   revert y2
   refine X8 (fun m (x:Int)=>a1U n Φ a1 b2 m x) (fun x=>[(0,.sl l6 a1),(1,.sl l6 b2),(5,.i x)]) (fun x=>[]) _ (fun _=>rfl) (fun m4 x y ih h=>?_) n 0
   obtain ⟨b09,rfl⟩:∃ q,q = x:=⟨_,rfl⟩
   rw [a1U] at h
   refine p8 (eSG (oB 4 rfl ?_))
   refine eI rfl h (fun h=>?_) fun h=>?_
   ·refine o8 (p8 ?_)
    refine C9 ?_
    refine eSG (oA 2 rfl ?_)
    obtain ⟨x3,g5,h⟩:=j5 h
    obtain ⟨x3_0,x3_1,x3_2,x3_3⟩:=x3
    refine a1u a8w g5 rfl rfl rfl rfl rfl rfl rfl rfl ?_
    refine a4m (c:=[.i x3_0,.str x3_1,.i x3_2,.sl l6 x3_3]) rfl rfl rfl rfl rfl rfl rfl ?_
    refine oA 2 rfl ?_
    obtain ⟨x4,g6,h⟩:=j5 h
    obtain ⟨x4_0,x4_1,x4_2,x4_3⟩:=x4
    refine a1u a8w g6 rfl rfl rfl rfl rfl rfl rfl rfl ?_
    refine a4m (c:=[.i x4_0,.str x4_1,.i x4_2,.sl l6 x4_3]) rfl rfl rfl rfl rfl rfl rfl ?_
    obtain ⟨r5,g7,h⟩:=j5 h
    refine F7 rfl rfl rfl rfl rfl (hΦ.a0C g7) rfl ?_
    refine oB 1 rfl ?_
    refine eI rfl h (fun h=>?_) fun h=>?_
    ·refine eSG (oB 1 rfl ?_)
     cases h
     exact o5 ⟨_,rfl,_,_,_,rfl,rfl,rfl⟩
    ·refine o8 (o6 (oB 3 rfl ?_))
     exact ⟨_,_,rfl,ih _ _ h⟩
   ·refine M4 ?_
    cases h
    exact ⟨_,rfl,rfl⟩
  ·subst hx
   refine eSG (oB 1 rfl ?_)
   cases h
   exact o5 ⟨_,_,_,rfl,rfl,rfl⟩
  ·subst hz
   rcases res with ⟨_ | _ | _ | _,_,_⟩ <;> first | exact absurd rfl hn | exact hr.elim | (cases h; exact hr)
theorem K5.ok:∀ n,(K5.fs n).Ok
 | 0=>⟨(fun h=>by cases h),(fun h=>by cases h)⟩
 | n + 1=>⟨(fun h=>b2M n (K5.ok n) h),(fun h=>b2k n (K5.ok n) h)⟩
theorem b0h {n:Nat} {a1:Typ} {b2:Typ} {r:Bool} (h:a0C n a1 b2 = some r) :
  E env (.call 38 [.agg [.i a1.kind,.str a1.name,.i a1.n,.sl l6 a1.args],.agg [.i b2.kind,.str b2.name,.i b2.n,.sl l6 b2.args]]) [] = some (a5X a1 b2 r):=(K5.ok n).a0C h
theorem a8O {n:Nat} {a1:List Typ} {b2:List Typ} {r:Bool} (h:a0s n a1 b2 = some r) :
  E env (.call 49 [.sl l6 a1,.sl l6 b2]) [] = some (a4g a1 b2 r):=(K5.ok n).a0s h
structure M0.Ok (Φ:M0):Prop where
 a1c:∀ {a1:Nod} {b2:Nod} {at3:Bool} {r:Bool},Φ.a1c a1 b2 at3 = some r -> E env (.call 16 [.agg (c0 a1.op a1.s a1.n a1.t.kind a1.t.name a1.t.n (.sl l6 a1.t.args) (.sl l6 a1.ts) (.sl A9 a1.l) a1.at_),.agg (c0 b2.op b2.s b2.n b2.t.kind b2.t.name b2.t.n (.sl l6 b2.t.args) (.sl l6 b2.ts) (.sl A9 b2.l) b2.at_),.bool at3]) [] = some (a6d a1 b2 at3 r)
 a3v:∀ {a1:List Nod} {b2:List Nod} {at3:Bool} {r:Bool},Φ.a3v a1 b2 at3 = some r -> E env (.call 50 [.sl A9 a1,.sl A9 b2,.bool at3]) [] = some (a5n a1 b2 at3 r)
theorem b3i (n:Nat) {Φ:M0} (hΦ:Φ.Ok) {a1:Nod} {b2:Nod} {at3:Bool} {r:Bool} (h:a4p n Φ a1 b2 at3 = some r) :
  E env (.call 16 [.agg (c0 a1.op a1.s a1.n a1.t.kind a1.t.name a1.t.n (.sl l6 a1.t.args) (.sl l6 a1.ts) (.sl A9 a1.l) a1.at_),.agg (c0 b2.op b2.s b2.n b2.t.kind b2.t.name b2.t.n (.sl l6 b2.t.args) (.sl l6 b2.ts) (.sl A9 b2.l) b2.at_),.bool at3]) [] = some (a6d a1 b2 at3 r):=by
 unfold a4p at h
 obtain ⟨a1_0,a1_1,a1_2,⟨a1_3,a1_4,a1_5,a1_6⟩,a1_7,a1_8,a1_9⟩:=a1
 obtain ⟨b2_0,b2_1,b2_2,⟨b2_3,b2_4,b2_5,b2_6⟩,b2_7,b2_8,b2_9⟩:=b2
 refine F4 rfl Tryz.func16 rfl rfl ?_
 refine eSG (oB 3 rfl (p8 ?_))
 obtain ⟨y1,g2,h⟩:=j5 h
 refine Y5 [(2,.bool at3),(3,.ptr 0 0),(4,.ptr 1 0),(51,.bool y1)] [(0,.row (c0 a1_0 a1_1 a1_2 a1_3 a1_4 a1_5 (.sl l6 a1_6) (.sl l6 a1_7) (.sl A9 a1_8) a1_9)),(1,.row (c0 b2_0 b2_1 b2_2 b2_3 b2_4 b2_5 (.sl l6 b2_6) (.sl l6 b2_7) (.sl A9 b2_8) b2_9))] rfl ?_ ?_
 ·replace h:=g2
  clear g2
  refine o6 (oA 6 rfl ?_)
  refine D5 rfl rfl rfl (fun g3=>?_) (fun g3=>?_)
  ·replace h:=U3 h g3
   refine oB 39 rfl ?_
   cases h
   exact rfl
  ·replace h:=U4 h g3
   refine oA 7 rfl ?_
   refine D5 rfl rfl rfl (fun g4=>?_) (fun g4=>?_)
   ·replace h:=U3 h g4
    refine oB 32 rfl ?_
    cases h
    exact rfl
   ·replace h:=U4 h g4
    refine oA 7 rfl ?_
    refine D5 rfl rfl rfl (fun g5=>?_) (fun g5=>?_)
    ·replace h:=U3 h g5
     refine oB 25 rfl ?_
     cases h
     exact rfl
    ·replace h:=U4 h g5
     refine oA 2 rfl ?_
     refine D5 rfl rfl rfl (fun g6=>?_) (fun g6=>?_)
     ·replace h:=U3 h g6
      refine oA 8 rfl ?_
      refine D5 rfl rfl rfl (fun g7=>?_) (fun g7=>?_)
      ·replace h:=U3 h g7
       refine oB 15 rfl ?_
       cases h
       exact rfl
      ·replace h:=U4 h g7
       refine oA 4 rfl ?_
       obtain ⟨r4,g8,h⟩:=j5 h
       refine F7 rfl rfl rfl rfl rfl (b0h g8) rfl ?_
       refine oA 3 rfl ?_
       refine D5 rfl rfl rfl (fun g9=>?_) (fun g9=>?_)
       ·replace h:=U3 h g9
        refine oB 7 rfl ?_
        cases h
        exact rfl
       ·replace h:=U4 h g9
        refine oA 4 rfl ?_
        obtain ⟨r5,g10,h⟩:=j5 h
        refine F7 rfl rfl rfl rfl rfl (a8O g10) rfl ?_
        refine oB 2 rfl ?_
        cases h
        exact rfl
     ·replace h:=U4 h g6
      refine oA 12 rfl ?_
      obtain ⟨r6,g11,h⟩:=j5 h
      refine F7 rfl rfl rfl rfl rfl (b0h g11) rfl ?_
      refine oA 3 rfl ?_
      refine D5 rfl rfl rfl (fun g12=>?_) (fun g12=>?_)
      ·replace h:=U3 h g12
       refine oB 7 rfl ?_
       cases h
       exact rfl
      ·replace h:=U4 h g12
       refine oA 4 rfl ?_
       obtain ⟨r7,g13,h⟩:=j5 h
       refine F7 rfl rfl rfl rfl rfl (a8O g13) rfl ?_
       refine oB 2 rfl ?_
       cases h
       exact rfl
 ·obtain ⟨b5O,rfl⟩:∃ q,q = y1:=⟨_,rfl⟩
  refine eI rfl h (fun h=>?_) fun h=>?_
  ·refine eSG (oB 1 rfl ?_)
   cases h
   exact o5 ⟨_,_,_,rfl,rfl,rfl⟩
  ·refine o8 (eSG (oA 5 rfl ?_))
   obtain ⟨r8,g15,h⟩:=j5 h
   refine F7 rfl rfl rfl rfl rfl (hΦ.a3v g15) rfl ?_
   refine oB 1 rfl ?_
   cases h
   exact o5 ⟨_,_,_,rfl,rfl,rfl⟩
theorem b1Y (n:Nat) {Φ:M0} (hΦ:Φ.Ok) {a1:List Nod} {b2:List Nod} {at3:Bool} {r:Bool} (h:a3T n Φ a1 b2 at3 = some r) :
  E env (.call 50 [.sl A9 a1,.sl A9 b2,.bool at3]) [] = some (a5n a1 b2 at3 r):=by
 unfold a3T at h
 refine F4 rfl Tryz.func50 rfl rfl ?_
 refine eSG (oB 1 rfl (p8 (eSG (oB 5 rfl ?_))))
 refine eI rfl h (fun h=>?_) fun h=>?_
 ·refine eSG (oB 1 rfl ?_)
  cases h
  exact o5 ⟨_,_,_,rfl,rfl,rfl⟩
 ·refine o8 ?_
  obtain ⟨y2,g3,h⟩:=O4 h
  refine Q6 (KR:=fun r=>a2s env 50 0 Tryz.f50.results.toList (a5n a1 b2 at3 r)) y2 (fun z9=>[]) (fun z9=>[]) rfl ?_ (fun z9 hx=>?_) (fun r res hz hr hn=>?_)
  ·replace h:=g3
   clear g3
   refine eSG (oB 1 rfl ?_)
   refine C9 ?_
   refine P7 rfl ?_
   revert y2
   refine X8 (fun m (x:Int)=>a1V n Φ a1 at3 b2 m x) (fun x=>[(0,.sl A9 a1),(1,.sl A9 b2),(2,.bool at3),(7,.i x)]) (fun x=>[]) _ (fun _=>rfl) (fun m4 x y ih h=>?_) n 0
   obtain ⟨b09,rfl⟩:∃ q,q = x:=⟨_,rfl⟩
   rw [a1V] at h
   refine p8 (eSG (oB 4 rfl ?_))
   refine eI rfl h (fun h=>?_) fun h=>?_
   ·refine o8 (p8 ?_)
    refine C9 ?_
    refine eSG (oA 2 rfl ?_)
    obtain ⟨x4,g5,h⟩:=j5 h
    obtain ⟨x4_0,x4_1,x4_2,⟨x4_3,x4_4,x4_5,x4_6⟩,x4_7,x4_8,x4_9⟩:=x4
    refine a1u Z7 g5 rfl rfl rfl rfl rfl rfl rfl rfl ?_
    refine a4m (c:=(c0 x4_0 x4_1 x4_2 x4_3 x4_4 x4_5 (.sl l6 x4_6) (.sl l6 x4_7) (.sl A9 x4_8) x4_9)) rfl rfl rfl rfl rfl rfl rfl ?_
    refine oA 2 rfl ?_
    obtain ⟨x5,g6,h⟩:=j5 h
    obtain ⟨x5_0,x5_1,x5_2,⟨x5_3,x5_4,x5_5,x5_6⟩,x5_7,x5_8,x5_9⟩:=x5
    refine a1u Z7 g6 rfl rfl rfl rfl rfl rfl rfl rfl ?_
    refine a4m (c:=(c0 x5_0 x5_1 x5_2 x5_3 x5_4 x5_5 (.sl l6 x5_6) (.sl l6 x5_7) (.sl A9 x5_8) x5_9)) rfl rfl rfl rfl rfl rfl rfl ?_
    refine oA 1 rfl ?_
    obtain ⟨r6,g7,h⟩:=j5 h
    refine F7 rfl rfl rfl rfl rfl (hΦ.a1c g7) rfl ?_
    refine oB 1 rfl ?_
    refine eI rfl h (fun h=>?_) fun h=>?_
    ·refine eSG (oB 1 rfl ?_)
     cases h
     exact o5 ⟨_,rfl,_,_,_,rfl,rfl,rfl⟩
    ·refine o8 (o6 (oB 3 rfl ?_))
     exact ⟨_,_,rfl,ih _ _ h⟩
   ·refine M4 ?_
    cases h
    exact ⟨_,rfl,rfl⟩
  ·subst hx
   refine eSG (oB 1 rfl ?_)
   cases h
   exact o5 ⟨_,_,_,rfl,rfl,rfl⟩
  ·subst hz
   rcases res with ⟨_ | _ | _ | _,_,_⟩ <;> first | exact absurd rfl hn | exact hr.elim | (cases h; exact hr)
theorem M0.ok:∀ n,(M0.fs n).Ok
 | 0=>⟨(fun h=>by cases h),(fun h=>by cases h)⟩
 | n + 1=>⟨(fun h=>b3i n (M0.ok n) h),(fun h=>b1Y n (M0.ok n) h)⟩
theorem b4o {n:Nat} {a1:Nod} {b2:Nod} {at3:Bool} {r:Bool} (h:a1c n a1 b2 at3 = some r) :
  E env (.call 16 [.agg (c0 a1.op a1.s a1.n a1.t.kind a1.t.name a1.t.n (.sl l6 a1.t.args) (.sl l6 a1.ts) (.sl A9 a1.l) a1.at_),.agg (c0 b2.op b2.s b2.n b2.t.kind b2.t.name b2.t.n (.sl l6 b2.t.args) (.sl l6 b2.ts) (.sl A9 b2.l) b2.at_),.bool at3]) [] = some (a6d a1 b2 at3 r):=(M0.ok n).a1c h
structure Y6.Ok (Φ:Y6):Prop where
 a2N:∀ {n1:Nod} {r:Int × Int},Φ.a2N n1 = some r -> E env (.call 32 [.agg (c0 n1.op n1.s n1.n n1.t.kind n1.t.name n1.t.n (.sl l6 n1.t.args) (.sl l6 n1.ts) (.sl A9 n1.l) n1.at_)]) [] = some (a7n n1 r)
theorem b4g (n:Nat) {Φ:Y6} (hΦ:Φ.Ok) {n1:Nod} {r:Int × Int} (h:a5M n Φ n1 = some r) :
  E env (.call 32 [.agg (c0 n1.op n1.s n1.n n1.t.kind n1.t.name n1.t.n (.sl l6 n1.t.args) (.sl l6 n1.ts) (.sl A9 n1.l) n1.at_)]) [] = some (a7n n1 r):=by
 unfold a5M at h
 obtain ⟨n1_0,n1_1,n1_2,⟨n1_3,n1_4,n1_5,n1_6⟩,n1_7,n1_8,n1_9⟩:=n1
 refine F4 rfl Tryz.func32 rfl rfl ?_
 refine eSG (oB 3 rfl (eSG (oB 2 rfl ?_)))
 obtain ⟨y1,g2,h⟩:=j5 h
 refine Y5 [(4,.i y1.1),(5,.i y1.2)] [] rfl ?_ ?_
 ·replace h:=g2
  clear g2
  refine eSG (oB 1 rfl ?_)
  refine C9 ?_
  refine P7 rfl ?_
  revert y1
  refine X8 (fun m (x:Int × Int × Int)=>a2M n Φ (Nod.mk n1_0 n1_1 n1_2 (Typ.mk n1_3 n1_4 n1_5 n1_6) n1_7 n1_8 n1_9) m x.1 x.2.1 x.2.2) (fun x=>[(1,.ptr 0 0),(4,.i x.1),(5,.i x.2.1),(6,.i x.2.2)]) (fun x=>[(0,.row (c0 n1_0 n1_1 n1_2 n1_3 n1_4 n1_5 (.sl l6 n1_6) (.sl l6 n1_7) (.sl A9 n1_8) n1_9))]) _ (fun _=>rfl) (fun m3 x y ih h=>?_) n (1,0,0)
  obtain ⟨a5D,b4C,b09⟩:=x
  replace h:a2M n Φ (Nod.mk n1_0 n1_1 n1_2 (Typ.mk n1_3 n1_4 n1_5 n1_6) n1_7 n1_8 n1_9) (m3 + 1) a5D b4C b09 = some y:=h
  rw [a2M] at h
  refine p8 (eSG (oB 5 rfl ?_))
  refine eI rfl h (fun h=>?_) fun h=>?_
  ·refine o8 (p8 ?_)
   refine C9 ?_
   refine eSG (oA 3 rfl ?_)
   obtain ⟨x2,g4,h⟩:=j5 h
   obtain ⟨x2_0,x2_1,x2_2,⟨x2_3,x2_4,x2_5,x2_6⟩,x2_7,x2_8,x2_9⟩:=x2
   refine a1u Z7 g4 rfl rfl rfl rfl rfl rfl rfl rfl ?_
   refine a4m (c:=(c0 x2_0 x2_1 x2_2 x2_3 x2_4 x2_5 (.sl l6 x2_6) (.sl l6 x2_7) (.sl A9 x2_8) x2_9)) rfl rfl rfl rfl rfl rfl rfl ?_
   obtain ⟨⟨r3,r4⟩,g5,h⟩:=j5 h
   refine F7 rfl rfl rfl rfl rfl (hΦ.a2N g5) rfl ?_
   refine oB 5 rfl (eSG (oB 4 rfl (o6 (oB 4 rfl (o6 (oB 3 rfl ?_))))))
   exact ⟨_,_,rfl,ih (_,_,_) _ h⟩
  ·refine M4 ?_
   cases h
   exact rfl
 ·obtain ⟨b0T,c0C⟩:=y1
  refine eSG (oB 5 rfl ?_)
  cases h
  exact o5 ⟨_,_,_,rfl,rfl,rfl⟩
theorem Y6.ok:∀ n,(Y6.fs n).Ok
 | 0=>⟨(fun h=>by cases h)⟩
 | n + 1=>⟨(fun h=>b4g n (Y6.ok n) h)⟩
theorem b6a {n:Nat} {n1:Nod} {r:Int × Int} (h:a2N n n1 = some r) :
  E env (.call 32 [.agg (c0 n1.op n1.s n1.n n1.t.kind n1.t.name n1.t.n (.sl l6 n1.t.args) (.sl l6 n1.ts) (.sl A9 n1.l) n1.at_)]) [] = some (a7n n1 r):=(Y6.ok n).a2N h
theorem K4 {l1:List Tok} {p9:Int} {at3:Int} {j6:Int} {r:Int} (h:J3 l1 p9 at3 j6 = some r) :
  E env (.call 47 [.ptr 0 0]) (hR q9 l1 p9 at3 j6) = some (a8B l1 p9 at3 j6 r):=by
 unfold J3 at h
 refine F4 rfl Tryz.func47 rfl rfl ?_
 refine eSG (oB 1 rfl (p8 (eSG (oB 10 rfl ?_))))
 refine eI rfl h (fun h=>?_) fun h=>?_
 ·refine eSG (oA 8 rfl ?_)
  obtain ⟨x5,g2,h⟩:=j5 h
  refine a1u a5x g2 rfl rfl rfl rfl rfl rfl rfl rfl ?_
  refine oB 3 rfl ?_
  cases h
  exact o5 ⟨_,_,_,rfl,rfl,rfl⟩
 ·refine o8 (eSG (oB 5 rfl ?_))
  cases h
  exact o5 ⟨_,_,_,rfl,rfl,rfl⟩
theorem M6 {a2h:Int} {a9h:Str} {l3:List Tok} {b3c:Int} {at5:Int} {a5K:Int} {r:Bool} (h:G9 a2h a9h l3 b3c at5 a5K = some r) :
  E env (.call 168 [.ptr 0 0,.i a2h,.str a9h]) (hR q9 l3 b3c at5 a5K) = some (b0v a2h a9h l3 b3c at5 a5K r):=by
 unfold G9 at h
 refine F4 rfl Tryz.func168 rfl rfl ?_
 refine eSG (oB 1 rfl (eSG (oA 11 rfl ?_)))
 refine D5 rfl rfl rfl (fun g1=>?_) (fun g1=>?_)
 ·replace h:=U3 h g1
  refine oA 8 rfl ?_
  obtain ⟨x7,g2,h⟩:=j5 h
  refine a1u a5x g2 rfl rfl rfl rfl rfl rfl rfl rfl ?_
  refine oA 6 rfl ?_
  refine D5 rfl rfl rfl (fun g3=>?_) (fun g3=>?_)
  ·replace h:=U3 h g3
   refine oA 8 rfl ?_
   obtain ⟨x8,g4,h⟩:=j5 h
   refine a1u a5x g4 rfl rfl rfl rfl rfl rfl rfl rfl ?_
   refine oB 6 rfl ?_
   cases h
   exact o5 ⟨_,_,_,rfl,rfl,rfl⟩
  ·replace h:=U4 h g3
   refine oB 15 rfl ?_
   cases h
   exact o5 ⟨_,_,_,rfl,rfl,rfl⟩
 ·replace h:=U4 h g1
  refine oB 30 rfl ?_
  cases h
  exact o5 ⟨_,_,_,rfl,rfl,rfl⟩
theorem a6C {a2h:Int} {a9h:Str} {l3:List Tok} {b3c:Int} {at5:Int} {a5K:Int} {r:Bool × Int} (h:a2i a2h a9h l3 b3c at5 a5K = some r) :
  E env (.call 166 [.ptr 0 0,.i a2h,.str a9h]) (hR q9 l3 b3c at5 a5K) = some (b0y a2h a9h l3 b3c at5 a5K r):=by
 unfold a2i at h
 refine F4 rfl Tryz.func166 rfl rfl ?_
 refine eSG (oB 1 rfl (p8 (eSG (oA 3 rfl ?_))))
 obtain ⟨r7,g1,h⟩:=j5 h
 refine oV (M6 g1) ?_
 refine A8 ?_
 refine eI rfl h (fun h=>?_) fun h=>?_
 ·refine eSG (oB 8 rfl (eSG (oB 1 rfl ?_)))
  cases h
  exact o5 ⟨_,_,_,rfl,rfl,rfl⟩
 ·refine o8 (eSG (oB 1 rfl ?_))
  cases h
  exact o5 ⟨_,_,_,rfl,rfl,rfl⟩
theorem u6 {s1:Str} {l2:List Tok} {L6:Int} {at4:Int} {G7:Int} {r:Bool × Int} (h:o9 s1 l2 L6 at4 G7 = some r) :
  E env (.call 137 [.ptr 0 0,.str s1]) (hR q9 l2 L6 at4 G7) = some (b0j s1 l2 L6 at4 G7 r):=by
 unfold o9 at h
 refine F4 rfl Tryz.func137 rfl rfl ?_
 refine eSG (oB 1 rfl (eSG (oA 2 rfl ?_)))
 obtain ⟨⟨r6,at7⟩,g1,h⟩:=j5 h
 refine oV (a6C g1) ?_
 refine oB 1 rfl ?_
 cases h
 exact o5 ⟨_,_,_,rfl,rfl,rfl⟩
theorem b4h {r:Unit} (h:a5A = some r) :
  E env (.call 185 []) [] = some (b3v r):=by
 unfold a5A at h
 refine F4 rfl Tryz.func185 rfl rfl ?_
 refine eSG (oB 1 rfl (eSG (oB 7 rfl ?_)))
 cases h
 exact o5 ⟨_,_,_,rfl,rfl,rfl⟩
theorem a2z {a2h:Int} {l2:List Tok} {L6:Int} {at4:Int} {G7:Int} {r:Bool} (h:U2 a2h l2 L6 at4 G7 = some r) :
  E env (.call 196 [.ptr 0 0,.i a2h]) (hR q9 l2 L6 at4 G7) = some (a9k a2h l2 L6 at4 G7 r):=by
 unfold U2 at h
 refine F4 rfl Tryz.func196 rfl rfl ?_
 refine eSG (oB 1 rfl (eSG (oA 11 rfl ?_)))
 refine D5 rfl rfl rfl (fun g1=>?_) (fun g1=>?_)
 ·replace h:=U3 h g1
  refine oA 8 rfl ?_
  obtain ⟨x6,g2,h⟩:=j5 h
  refine a1u a5x g2 rfl rfl rfl rfl rfl rfl rfl rfl ?_
  refine oB 6 rfl ?_
  cases h
  exact o5 ⟨_,_,_,rfl,rfl,rfl⟩
 ·replace h:=U4 h g1
  refine oB 15 rfl ?_
  cases h
  exact o5 ⟨_,_,_,rfl,rfl,rfl⟩
theorem I9 {a2h:Int} {l2:List Tok} {L6:Int} {at4:Int} {G7:Int} {r:Str × Bool × Int} (h:D8 a2h l2 L6 at4 G7 = some r) :
  E env (.call 136 [.ptr 0 0,.i a2h]) (hR q9 l2 L6 at4 G7) = some (b0s a2h l2 L6 at4 G7 r):=by
 unfold D8 at h
 refine F4 rfl Tryz.func136 rfl rfl ?_
 refine eSG (oB 2 rfl (p8 (eSG (oA 2 rfl ?_))))
 obtain ⟨r6,g1,h⟩:=j5 h
 refine oV (a2z g1) ?_
 refine A8 ?_
 refine eI rfl h (fun h=>?_) fun h=>?_
 ·refine eSG (oA 8 rfl ?_)
  obtain ⟨x7,g3,h⟩:=j5 h
  refine a1u a5x g3 rfl rfl rfl rfl rfl rfl rfl rfl ?_
  refine oB 3 rfl (eSG (oB 8 rfl (eSG (oB 3 rfl ?_))))
  cases h
  exact o5 ⟨_,_,_,rfl,rfl,rfl⟩
 ·refine o8 (eSG (oB 2 rfl ?_))
  cases h
  exact o5 ⟨_,_,_,rfl,rfl,rfl⟩
theorem b0F {n:Nat} {l1:List Tok} {p9:Int} {at3:Int} {j6:Int} {r:Nod × Bool × Int} (h:a1C n l1 p9 at3 j6 = some r) :
  E env (.call 262 [.ptr 0 0]) (hR q9 l1 p9 at3 j6) = some (b0r l1 p9 at3 j6 r):=by
 unfold a1C at h
 refine F4 rfl Tryz.func262 rfl rfl ?_
 refine eSG (oB 2 rfl (eSG (oA 1 rfl ?_)))
 obtain ⟨r5,g1,h⟩:=j5 h
 refine oV (K4 g1) ?_
 refine oB 1 rfl (eSG (oA 1 rfl ?_))
 obtain ⟨⟨r6,r7,at8⟩,g2,h⟩:=j5 h
 refine oV (I9 g2) ?_
 refine oB 5 rfl (eSG (oA 2 rfl ?_))
 refine oD ?_
 refine oB 2 rfl ?_
 obtain ⟨y3,g4,h⟩:=j5 h
 refine Y5 [(2,.ptr 1 0),(6,.bool y3.1),(7,.ptr 2 0)] [(0,.row [.sl q9 l1,.i p9,.i y3.2.1,.i j6]),(1,.row [.i 0,.str [],.i 0,.i 0,.str [],.i 0,.st 3 l6 ([]:List Typ),.st 4 l6 ([]:List Typ),.st 5 A9 ([]:List Nod),.i 0]),(2,.row [.i y3.2.2.1,.str y3.2.2.2.1,.i 0,.i 0,.str [],.i 0,.st 6 l6 ([]:List Typ),.st 7 l6 ([]:List Typ),.st 8 A9 y3.2.2.2.2,.i r5]),(3,.tip 0 0),(4,.tip 0 0),(5,.tip 0 0),(6,.tip 0 0),(7,.tip 0 0),(8,.tip (tpe 10 (List.length y3.2.2.2.2)) (List.length y3.2.2.2.2))] rfl ?_ ?_
 ·replace h:=g4
  clear g4
  refine C9 ?_
  refine P7 rfl ?_
  revert y3
  refine X8 (fun m (x:Bool × Int × Int × Str × List Nod)=>V7 n p9 l1 j6 r5 m x.1 x.2.1 x.2.2.1 x.2.2.2.1 x.2.2.2.2) (fun x=>[(0,.ptr 0 0),(2,.ptr 1 0),(4,.i r5),(6,.bool x.1),(7,.ptr 2 0)]) (fun x=>[(0,.row [.sl q9 l1,.i p9,.i x.2.1,.i j6]),(1,.row [.i 0,.str [],.i 0,.i 0,.str [],.i 0,.st 3 l6 ([]:List Typ),.st 4 l6 ([]:List Typ),.st 5 A9 ([]:List Nod),.i 0]),(2,.row [.i x.2.2.1,.str x.2.2.2.1,.i 0,.i 0,.str [],.i 0,.st 6 l6 ([]:List Typ),.st 7 l6 ([]:List Typ),.st 8 A9 x.2.2.2.2,.i r5]),(3,.tip 0 0),(4,.tip 0 0),(5,.tip 0 0),(6,.tip 0 0),(7,.tip 0 0),(8,.tip (tpe 10 (List.length x.2.2.2.2)) (List.length x.2.2.2.2))]) _ (fun _=>rfl) (fun m4 x y ih h=>?_) n (r7,at8,54,r6,([]:List Nod))
  obtain ⟨ok503,a8f,op505,s506,l507⟩:=x
  rw [V7] at h
  refine p8 ?_
  obtain ⟨y5,g6,h⟩:=j5 h
  refine Y5 [(0,.ptr 0 0),(2,.ptr 1 0),(4,.i r5),(6,.bool ok503),(7,.ptr 2 0),(24,.bool y5.1)] [(0,.row [.sl q9 l1,.i p9,.i y5.2,.i j6]),(1,.row [.i 0,.str [],.i 0,.i 0,.str [],.i 0,.st 3 l6 ([]:List Typ),.st 4 l6 ([]:List Typ),.st 5 A9 ([]:List Nod),.i 0]),(2,.row [.i op505,.str s506,.i 0,.i 0,.str [],.i 0,.st 6 l6 ([]:List Typ),.st 7 l6 ([]:List Typ),.st 8 A9 l507,.i r5]),(3,.tip 0 0),(4,.tip 0 0),(5,.tip 0 0),(6,.tip 0 0),(7,.tip 0 0),(8,.tip (tpe 10 (List.length l507)) (List.length l507))] rfl ?_ ?_
  ·replace h:=g6
   clear g6
   refine o6 (oA 2 rfl ?_)
   refine D5 rfl rfl rfl (fun g7=>?_) (fun g7=>?_)
   ·replace h:=U3 h g7
    refine oA 1 rfl ?_
    obtain ⟨⟨r9,at10⟩,g8,h⟩:=j5 h
    refine oV (u6 g8) ?_
    refine oB 1 rfl ?_
    cases h
    exact rfl
   ·replace h:=U4 h g7
    refine oB 3 rfl ?_
    cases h
    exact rfl
  ·obtain ⟨x517,a3S⟩:=y5
   refine eI rfl h (fun h=>?_) fun h=>?_
   ·refine o8 ?_
    refine C9 ?_
    refine eSG (oA 1 rfl ?_)
    obtain ⟨⟨r11,r12,at13⟩,g10,h⟩:=j5 h
    refine oV (I9 g10) ?_
    refine oB 5 rfl (eSG (oA 4 rfl ?_))
    refine oD ?_
    refine oB 1 rfl (o6 (oB 2 rfl ?_))
    exact ⟨_,_,rfl,ih (_,_,_,_,_) _ h⟩
   ·refine M4 ?_
    cases h
    exact rfl
 ·obtain ⟨ok524,b4c,op526,s527,l528⟩:=y3
  refine eSG (oB 4 rfl ?_)
  cases h
  exact o5 ⟨_,_,_,rfl,rfl,rfl⟩
end Go.Proofs.YtmonfppdiehlpaaGreatDoor
namespace Go.Proofs.YtmonfppdiehlpaaGreatDoor
open Go Go.Vm
theorem a6L {n:Nat} {s1:Str} {r:Int} (h:a1F n s1 = some r) :
  E env (.call 258 [.str s1]) [] = some (b3l s1 r):=by
 unfold a1F at h
 refine F4 rfl Tryz.func258 rfl rfl ?_
 refine eSG (oB 1 rfl (eSG (oB 1 rfl ?_)))
 obtain ⟨y1,g2,h⟩:=j5 h
 refine Y5 [(3,.i y1)] [] rfl ?_ ?_
 ·replace h:=g2
  clear g2
  refine eSG (oB 1 rfl ?_)
  refine C9 ?_
  refine P7 rfl ?_
  revert y1
  refine X8 (fun m (x:Int × Int)=>a1L n s1 m x.1 x.2) (fun x=>[(0,.str s1),(3,.i x.1),(4,.i x.2)]) (fun x=>[]) _ (fun _=>rfl) (fun m3 x y ih h=>?_) n (0,0)
  obtain ⟨n501,i502⟩:=x
  rw [a1L] at h
  refine p8 (eSG (oB 4 rfl ?_))
  refine eI rfl h (fun h=>?_) fun h=>?_
  ·refine o8 (p8 ?_)
   refine C9 ?_
   refine o6 (oA 4 rfl ?_)
   obtain ⟨b2,g4,h⟩:=j5 h
   refine os_idxS g4 rfl rfl rfl rfl rfl rfl ?_
   refine oB 4 rfl (o6 (oB 3 rfl ?_))
   exact ⟨_,_,rfl,ih (_,_) _ h⟩
  ·refine M4 ?_
   cases h
   exact rfl
 ·obtain ⟨b3m,rfl⟩:∃ q,q = y1:=⟨_,rfl⟩
  refine eSG (oB 2 rfl ?_)
  cases h
  exact o5 ⟨_,_,_,rfl,rfl,rfl⟩
theorem I6 {s1:Str} {l2:List Tok} {L6:Int} {at4:Int} {G7:Int} {r:Bool × Int} (h:E9 s1 l2 L6 at4 G7 = some r) :
  E env (.call 99 [.ptr 0 0,.str s1]) (hR q9 l2 L6 at4 G7) = some (b0E s1 l2 L6 at4 G7 r):=by
 unfold E9 at h
 refine F4 rfl Tryz.func99 rfl rfl ?_
 refine eSG (oB 1 rfl (eSG (oA 2 rfl ?_)))
 obtain ⟨⟨r6,at7⟩,g1,h⟩:=j5 h
 refine oV (a6C g1) ?_
 refine oB 1 rfl ?_
 cases h
 exact o5 ⟨_,_,_,rfl,rfl,rfl⟩
structure A7.Ok (Φ:A7):Prop where
 K6:∀ {l1:List Tok} {p9:Int} {at3:Int} {j6:Int} {r:Typ × Bool × Int},Φ.K6 l1 p9 at3 j6 = some r -> E env (.call 66 [.ptr 0 0]) (hR q9 l1 p9 at3 j6) = some (a3i l1 p9 at3 j6 r)
 X3:∀ {l1:List Tok} {p9:Int} {at3:Int} {j6:Int} {r:List Typ × Bool × Int},Φ.X3 l1 p9 at3 j6 = some r -> E env (.call 138 [.ptr 0 0]) (hR q9 l1 p9 at3 j6) = some (a3L l1 p9 at3 j6 r)
 U5:∀ {l1:List Tok} {p9:Int} {at3:Int} {j6:Int} {r:Typ × Bool × Int},Φ.U5 l1 p9 at3 j6 = some r -> E env (.call 139 [.ptr 0 0]) (hR q9 l1 p9 at3 j6) = some (a2X l1 p9 at3 j6 r)
theorem b0u (n:Nat) {Φ:A7} (hΦ:Φ.Ok) {l1:List Tok} {p9:Int} {at3:Int} {j6:Int} {r:Typ × Bool × Int} (h:a2S n Φ l1 p9 at3 j6 = some r) :
  E env (.call 66 [.ptr 0 0]) (hR q9 l1 p9 at3 j6) = some (a3i l1 p9 at3 j6 r):=by
 unfold a2S at h
 refine F4 rfl Tryz.func66 rfl rfl ?_
 refine eSG (oB 2 rfl (p8 (eSG (oA 1 rfl ?_))))
 obtain ⟨⟨r5,at6⟩,g1,h⟩:=j5 h
 refine oV (I6 g1) ?_
 refine A8 ?_
 refine eI rfl h (fun h=>?_) fun h=>?_
 ·refine eSG (oA 1 rfl ?_)
  obtain ⟨⟨r7,r8,at9⟩,g3,h⟩:=j5 h
  refine oV (I9 g3) ?_
  refine oB 5 rfl (eSG (oA 1 rfl ?_))
  refine oD ?_
  refine oB 3 rfl ?_
  cases h
  exact o5 ⟨_,_,_,rfl,rfl,rfl⟩
 ·refine o8 (p8 (eSG (oA 1 rfl ?_)))
  obtain ⟨⟨r10,at11⟩,g4,h⟩:=j5 h
  refine oV (u6 g4) ?_
  refine A8 ?_
  refine eI rfl h (fun h=>?_) fun h=>?_
  ·refine eSG ?_
   refine oD ?_
   refine oB 2 rfl ?_
   obtain ⟨y6,g7,h⟩:=O4 h
   refine Q6 (KR:=fun r=>a2s env 66 1 Tryz.f66.results.toList (a3i l1 p9 at3 j6 r)) y6 (fun z20=>[(0,.ptr 0 0),(2,.ptr 1 0),(6,.ptr 2 0)]) (fun z20=>[(0,.row [.sl q9 l1,.i p9,.i z20.1,.i j6]),(1,.row [.i 0,.str [],.i 0,.st 3 l6 ([]:List Typ)]),(2,.row [.i 10,.str [],.i 0,.st 4 l6 z20.2]),(3,.tip 0 0),(4,.tip (tpe 4 (List.length z20.2)) (List.length z20.2))]) rfl ?_ (fun z20 hx=>?_) (fun r res hz hr hn=>?_)
   ·replace h:=g7
    clear g7
    refine eSG (oA 1 rfl ?_)
    obtain ⟨⟨r12,at13⟩,g8,h⟩:=j5 h
    refine oV (u6 g8) ?_
    refine oB 1 rfl ?_
    refine eI rfl h (fun h=>?_) fun h=>?_
    ·refine eSG (oA 1 rfl ?_)
     obtain ⟨⟨r14,r15,at16⟩,g10,h⟩:=j5 h
     refine oV (hΦ.X3 g10) ?_
     refine oB 5 rfl (p8 ?_)
     obtain ⟨y11,g12,h⟩:=j5 h
     refine Y5 [(0,.ptr 0 0),(2,.ptr 1 0),(6,.ptr 2 0),(7,.st 3 l6 r14),(43,.bool y11.1)] [(0,.row [.sl q9 l1,.i p9,.i y11.2,.i j6]),(1,.row [.i 0,.str [],.i 0,.st 4 l6 ([]:List Typ)]),(2,.row [.i 10,.str [],.i 0,.st 5 l6 ([]:List Typ)]),(3,.tip (tpe 4 (List.length r14)) (List.length r14)),(4,.tip 0 0),(5,.tip 0 0)] rfl ?_ ?_
     ·replace h:=g12
      clear g12
      refine o6 (oA 3 rfl ?_)
      refine D5 rfl rfl rfl (fun g13=>?_) (fun g13=>?_)
      ·replace h:=U3 h g13
       refine oB 4 rfl ?_
       cases h
       exact rfl
      ·replace h:=U4 h g13
       refine oA 1 rfl ?_
       obtain ⟨⟨r17,at18⟩,g14,h⟩:=j5 h
       refine oV (u6 g14) ?_
       refine oB 2 rfl ?_
       cases h
       exact rfl
     ·obtain ⟨x510,a5c⟩:=y11
      refine eI rfl h (fun h=>?_) fun h=>?_
      ·refine eSG (oB 3 rfl ?_)
       cases h
       exact o5 ⟨_,rfl,_,_,_,rfl,rfl,rfl⟩
      ·refine o8 (o6 (oB 3 rfl ?_))
       cases h
       exact ⟨_,rfl,rfl⟩
    ·refine o8 ?_
     cases h
     exact ⟨_,rfl,rfl⟩
   ·subst hx
    obtain ⟨b3g,b7o⟩:=z20
    refine p8 (eSG (oA 1 rfl ?_))
    obtain ⟨⟨r19,at20⟩,g16,h⟩:=j5 h
    refine oV (u6 g16) ?_
    refine oB 1 rfl ?_
    refine eI rfl h (fun h=>?_) fun h=>?_
    ·refine eSG (oB 3 rfl ?_)
     cases h
     exact o5 ⟨_,_,_,rfl,rfl,rfl⟩
    ·refine o8 (eSG (oA 1 rfl ?_))
     obtain ⟨⟨r21,r22,at23⟩,g18,h⟩:=j5 h
     obtain ⟨r21_0,r21_1,r21_2,r21_3⟩:=r21
     refine oV (hΦ.K6 g18) ?_
     refine oB 6 rfl (eSG (oA 4 rfl ?_))
     obtain ⟨l24,g19,h⟩:=j5 h
     refine oP a8w g19 ?_
     refine oB 1 rfl (eSG (oB 3 rfl (eSG (oB 4 rfl ?_))))
     cases h
     exact o5 ⟨_,_,_,rfl,rfl,rfl⟩
   ·subst hz
    rcases res with ⟨_ | _ | _ | _,_,_⟩ <;> first | exact absurd rfl hn | exact hr.elim | (cases h; exact hr)
  ·refine o8 (eSG (oA 1 rfl ?_))
   obtain ⟨⟨r25,r26,at27⟩,g21,h⟩:=j5 h
   obtain ⟨r25_0,r25_1,r25_2,r25_3⟩:=r25
   refine oV (hΦ.U5 g21) ?_
   refine oB 6 rfl ?_
   obtain ⟨y22,g23,h⟩:=j5 h
   refine Y5 [(2,.ptr 1 0),(12,.ptr 2 0),(13,.bool y22.1)] [(0,.row [.sl q9 l1,.i p9,.i y22.2.1,.i j6]),(1,.row [.i 0,.str [],.i 0,.st 3 l6 ([]:List Typ)]),(2,.row [.i y22.2.2.kind,.str y22.2.2.name,.i y22.2.2.n,.sl l6 y22.2.2.args]),(3,.tip 0 0)] rfl ?_ ?_
   ·replace h:=g23
    clear g23
    refine C9 ?_
    refine P7 rfl ?_
    revert y22
    refine X8 (fun m (x:Bool × Int × Typ)=>R8 n Φ p9 l1 j6 m x.1 x.2.1 x.2.2) (fun x=>[(0,.ptr 0 0),(2,.ptr 1 0),(12,.ptr 2 0),(13,.bool x.1)]) (fun x=>[(0,.row [.sl q9 l1,.i p9,.i x.2.1,.i j6]),(1,.row [.i 0,.str [],.i 0,.st 3 l6 ([]:List Typ)]),(2,.row [.i x.2.2.kind,.str x.2.2.name,.i x.2.2.n,.sl l6 x.2.2.args]),(3,.tip 0 0)]) _ (fun _=>rfl) (fun m18 x y ih h=>?_) n (r26,at27,(Typ.mk r25_0 r25_1 r25_2 r25_3))
    obtain ⟨ok558,at559,n560⟩:=x
    obtain ⟨n560_0,n560_1,n560_2,n560_3⟩:=n560
    rw [R8] at h
    refine p8 ?_
    obtain ⟨y24,g25,h⟩:=j5 h
    refine Y5 [(0,.ptr 0 0),(2,.ptr 1 0),(12,.ptr 2 0),(13,.bool ok558),(74,.bool y24.1)] [(0,.row [.sl q9 l1,.i p9,.i y24.2,.i j6]),(1,.row [.i 0,.str [],.i 0,.st 3 l6 ([]:List Typ)]),(2,.row [.i n560_0,.str n560_1,.i n560_2,.sl l6 n560_3]),(3,.tip 0 0)] rfl ?_ ?_
    ·replace h:=g25
     clear g25
     refine o6 (oA 2 rfl ?_)
     refine D5 rfl rfl rfl (fun g26=>?_) (fun g26=>?_)
     ·replace h:=U3 h g26
      refine oA 1 rfl ?_
      obtain ⟨⟨r28,at29⟩,g27,h⟩:=j5 h
      refine oV (u6 g27) ?_
      refine oB 1 rfl ?_
      cases h
      exact rfl
     ·replace h:=U4 h g26
      refine oB 3 rfl ?_
      cases h
      exact rfl
    ·obtain ⟨x572,at573⟩:=y24
     refine eI rfl h (fun h=>?_) fun h=>?_
     ·refine o8 ?_
      refine C9 ?_
      refine eSG (oA 1 rfl ?_)
      obtain ⟨⟨r30,r31,at32⟩,g29,h⟩:=j5 h
      refine oV (I9 g29) ?_
      refine oB 5 rfl (eSG (oA 3 rfl ?_))
      refine oD ?_
      refine oB 1 rfl (o6 (oB 2 rfl ?_))
      exact ⟨_,_,rfl,ih (_,_,_) _ h⟩
     ·refine M4 ?_
      cases h
      exact rfl
   ·obtain ⟨ok577,at578,n579⟩:=y22
    obtain ⟨n579_0,n579_1,n579_2,n579_3⟩:=n579
    refine eSG (oB 4 rfl ?_)
    cases h
    exact o5 ⟨_,_,_,rfl,rfl,rfl⟩
theorem a8N (n:Nat) {Φ:A7} (hΦ:Φ.Ok) {l1:List Tok} {p9:Int} {at3:Int} {j6:Int} {r:List Typ × Bool × Int} (h:V6 n Φ l1 p9 at3 j6 = some r) :
  E env (.call 138 [.ptr 0 0]) (hR q9 l1 p9 at3 j6) = some (a3L l1 p9 at3 j6 r):=by
 unfold V6 at h
 refine F4 rfl Tryz.func138 rfl rfl ?_
 refine eSG (oB 2 rfl (eSG (oB 1 rfl ?_)))
 obtain ⟨y1,g2,h⟩:=O4 h
 refine Q6 (KR:=fun r=>a2s env 138 1 Tryz.f138.results.toList (a3L l1 p9 at3 j6 r)) y1 (fun z8=>[(4,.st 1 l6 z8.1)]) (fun z8=>[(0,.row [.sl q9 l1,.i p9,.i z8.2,.i j6]),(1,.tip (tpe 4 (List.length z8.1)) (List.length z8.1))]) rfl ?_ (fun z8 hx=>?_) (fun r res hz hr hn=>?_)
 ·replace h:=g2
  clear g2
  refine eSG (oB 1 rfl ?_)
  refine C9 ?_
  refine P7 rfl ?_
  revert y1
  refine X8 (fun m (x:List Typ × Bool × Int)=>a0b n Φ p9 l1 j6 m x.1 x.2.1 x.2.2) (fun x=>[(0,.ptr 0 0),(4,.st 1 l6 x.1),(5,.bool x.2.1)]) (fun x=>[(0,.row [.sl q9 l1,.i p9,.i x.2.2,.i j6]),(1,.tip (tpe 4 (List.length x.1)) (List.length x.1))]) _ (fun _=>rfl) (fun m3 x y ih h=>?_) n (([]:List Typ),true,at3)
  obtain ⟨l501,c04,a5i⟩:=x
  rw [a0b] at h
  refine p8 (eSG (oB 1 rfl ?_))
  refine eI rfl h (fun h=>?_) fun h=>?_
  ·refine o8 ?_
   refine C9 ?_
   refine eSG (oA 1 rfl ?_)
   obtain ⟨⟨r5,r6,at7⟩,g4,h⟩:=j5 h
   obtain ⟨r5_0,r5_1,r5_2,r5_3⟩:=r5
   refine oV (hΦ.K6 g4) ?_
   refine oB 6 rfl (p8 (eSG (oB 2 rfl ?_)))
   refine eI rfl h (fun h=>?_) fun h=>?_
   ·refine eSG (oB 3 rfl ?_)
    cases h
    exact o5 ⟨_,rfl,_,_,_,rfl,rfl,rfl⟩
   ·refine o8 (eSG (oA 3 rfl ?_))
    obtain ⟨l8,g6,h⟩:=j5 h
    refine oP a8w g6 ?_
    refine oB 1 rfl (o6 (oA 1 rfl ?_))
    obtain ⟨⟨r9,at10⟩,g7,h⟩:=j5 h
    refine oV (u6 g7) ?_
    refine oB 1 rfl ?_
    exact ⟨_,_,rfl,ih (_,_,_) _ h⟩
  ·refine M4 ?_
   cases h
   exact ⟨_,rfl,rfl⟩
 ·subst hx
  obtain ⟨l508,a6P⟩:=z8
  refine eSG (oB 3 rfl ?_)
  cases h
  exact o5 ⟨_,_,_,rfl,rfl,rfl⟩
 ·subst hz
  rcases res with ⟨_ | _ | _ | _,_,_⟩ <;> first | exact absurd rfl hn | exact hr.elim | (cases h; exact hr)
theorem a9A (n:Nat) {Φ:A7} (hΦ:Φ.Ok) {l1:List Tok} {p9:Int} {at3:Int} {j6:Int} {r:Typ × Bool × Int} (h:a0t n Φ l1 p9 at3 j6 = some r) :
  E env (.call 139 [.ptr 0 0]) (hR q9 l1 p9 at3 j6) = some (a2X l1 p9 at3 j6 r):=by
 unfold a0t at h
 refine F4 rfl Tryz.func139 rfl rfl ?_
 refine eSG (oB 2 rfl (eSG (oA 1 rfl ?_)))
 obtain ⟨⟨r5,r6,at7⟩,g1,h⟩:=j5 h
 refine oV (I9 g1) ?_
 refine oB 5 rfl (p8 (eSG (oB 2 rfl ?_)))
 refine eI rfl h (fun h=>?_) fun h=>?_
 ·refine eSG ?_
  refine oD ?_
  refine oB 2 rfl ?_
  cases h
  exact o5 ⟨_,_,_,rfl,rfl,rfl⟩
 ·refine o8 (eSG (oB 1 rfl ?_))
  obtain ⟨y3,g4,h⟩:=O4 h
  refine Q6 (KR:=fun r=>a2s env 139 1 Tryz.f139.results.toList (a2X l1 p9 at3 j6 r)) y3 (fun z42=>[(2,.ptr 1 0),(4,.str r5),(6,.st 2 l6 z42.1)]) (fun z42=>[(0,.row [.sl q9 l1,.i p9,.i z42.2,.i j6]),(1,.row [.i 0,.str [],.i 0,.st 3 l6 ([]:List Typ)]),(2,.tip (tpe 4 (List.length z42.1)) (List.length z42.1)),(3,.tip 0 0)]) rfl ?_ (fun z42 hx=>?_) (fun r res hz hr hn=>?_)
  ·replace h:=g4
   clear g4
   refine eSG (oA 1 rfl ?_)
   obtain ⟨⟨r8,at9⟩,g5,h⟩:=j5 h
   refine oV (u6 g5) ?_
   refine A8 ?_
   refine eI rfl h (fun h=>?_) fun h=>?_
   ·refine eSG (oA 1 rfl ?_)
    obtain ⟨⟨r10,r11,at12⟩,g7,h⟩:=j5 h
    refine oV (hΦ.X3 g7) ?_
    refine oB 5 rfl (p8 ?_)
    obtain ⟨y8,g9,h⟩:=j5 h
    refine Y5 [(2,.ptr 1 0),(4,.str r5),(7,.st 2 l6 r10),(31,.bool y8.1)] [(0,.row [.sl q9 l1,.i p9,.i y8.2,.i j6]),(1,.row [.i 0,.str [],.i 0,.st 3 l6 ([]:List Typ)]),(2,.tip (tpe 4 (List.length r10)) (List.length r10)),(3,.tip 0 0)] rfl ?_ ?_
    ·replace h:=g9
     clear g9
     refine o6 (oA 3 rfl ?_)
     refine D5 rfl rfl rfl (fun g10=>?_) (fun g10=>?_)
     ·replace h:=U3 h g10
      refine oB 4 rfl ?_
      cases h
      exact rfl
     ·replace h:=U4 h g10
      refine oA 1 rfl ?_
      obtain ⟨⟨r13,at14⟩,g11,h⟩:=j5 h
      refine oV (u6 g11) ?_
      refine oB 2 rfl ?_
      cases h
      exact rfl
    ·obtain ⟨x510,a5c⟩:=y8
     refine eI rfl h (fun h=>?_) fun h=>?_
     ·refine eSG ?_
      refine oD ?_
      refine oB 2 rfl ?_
      cases h
      exact o5 ⟨_,rfl,_,_,_,rfl,rfl,rfl⟩
     ·refine o8 (o6 (oB 2 rfl ?_))
      cases h
      exact ⟨_,rfl,rfl⟩
   ·refine o8 ?_
    cases h
    exact ⟨_,rfl,rfl⟩
  ·subst hx
   obtain ⟨a4J,b0i⟩:=z42
   refine eSG (oB 1 rfl ?_)
   obtain ⟨y13,g14,h⟩:=j5 h
   refine Y5 [(2,.ptr 1 0),(4,.str r5),(6,.st 2 l6 a4J),(9,.i y13)] [(0,.row [.sl q9 l1,.i p9,.i b0i,.i j6]),(1,.row [.i 0,.str [],.i 0,.st 3 l6 ([]:List Typ)]),(2,.tip (tpe 4 (List.length a4J)) (List.length a4J)),(3,.tip 0 0)] rfl ?_ ?_
   ·replace h:=g14
    clear g14
    refine C9 ?_
    obtain ⟨y15,g16,h⟩:=j5 h
    refine Y5 [(2,.ptr 1 0),(4,.str r5),(6,.st 2 l6 a4J),(9,.i 6),(34,.bool y15)] [(0,.row [.sl q9 l1,.i p9,.i b0i,.i j6]),(1,.row [.i 0,.str [],.i 0,.st 3 l6 ([]:List Typ)]),(2,.tip (tpe 4 (List.length a4J)) (List.length a4J)),(3,.tip 0 0)] rfl ?_ ?_
    ·replace h:=g16
     clear g16
     refine o6 (oA 4 rfl ?_)
     refine D5 rfl rfl rfl (fun g17=>?_) (fun g17=>?_)
     ·replace h:=U3 h g17
      refine oB 4 rfl ?_
      cases h
      exact rfl
     ·replace h:=U4 h g17
      refine oB 4 rfl ?_
      cases h
      exact rfl
    ·obtain ⟨x557,rfl⟩:∃ q,q = y15:=⟨_,rfl⟩
     refine eI rfl h (fun h=>?_) fun h=>?_
     ·refine o6 (oB 1 rfl ?_)
      cases h
      exact rfl
     ·obtain ⟨y19,g20,h⟩:=j5 h
      refine Y5 [(2,.ptr 1 0),(4,.str r5),(6,.st 2 l6 a4J),(9,.i 6),(42,.bool y19)] [(0,.row [.sl q9 l1,.i p9,.i b0i,.i j6]),(1,.row [.i 0,.str [],.i 0,.st 3 l6 ([]:List Typ)]),(2,.tip (tpe 4 (List.length a4J)) (List.length a4J)),(3,.tip 0 0)] rfl ?_ ?_
      ·replace h:=g20
       clear g20
       refine o6 (oA 4 rfl ?_)
       refine D5 rfl rfl rfl (fun g21=>?_) (fun g21=>?_)
       ·replace h:=U3 h g21
        refine oB 4 rfl ?_
        cases h
        exact rfl
       ·replace h:=U4 h g21
        refine oB 4 rfl ?_
        cases h
        exact rfl
      ·obtain ⟨x558,rfl⟩:∃ q,q = y19:=⟨_,rfl⟩
       refine eI rfl h (fun h=>?_) fun h=>?_
       ·refine o6 (oB 1 rfl ?_)
        cases h
        exact rfl
       ·obtain ⟨y23,g24,h⟩:=j5 h
        refine Y5 [(2,.ptr 1 0),(4,.str r5),(6,.st 2 l6 a4J),(9,.i 6),(50,.bool y23)] [(0,.row [.sl q9 l1,.i p9,.i b0i,.i j6]),(1,.row [.i 0,.str [],.i 0,.st 3 l6 ([]:List Typ)]),(2,.tip (tpe 4 (List.length a4J)) (List.length a4J)),(3,.tip 0 0)] rfl ?_ ?_
        ·replace h:=g24
         clear g24
         refine o6 (oA 4 rfl ?_)
         refine D5 rfl rfl rfl (fun g25=>?_) (fun g25=>?_)
         ·replace h:=U3 h g25
          refine oB 4 rfl ?_
          cases h
          exact rfl
         ·replace h:=U4 h g25
          refine oB 4 rfl ?_
          cases h
          exact rfl
        ·obtain ⟨x559,rfl⟩:∃ q,q = y23:=⟨_,rfl⟩
         refine eI rfl h (fun h=>?_) fun h=>?_
         ·refine o6 (oB 1 rfl ?_)
          cases h
          exact rfl
         ·obtain ⟨y27,g28,h⟩:=j5 h
          refine Y5 [(2,.ptr 1 0),(4,.str r5),(6,.st 2 l6 a4J),(9,.i 6),(58,.bool y27)] [(0,.row [.sl q9 l1,.i p9,.i b0i,.i j6]),(1,.row [.i 0,.str [],.i 0,.st 3 l6 ([]:List Typ)]),(2,.tip (tpe 4 (List.length a4J)) (List.length a4J)),(3,.tip 0 0)] rfl ?_ ?_
          ·replace h:=g28
           clear g28
           refine o6 (oA 4 rfl ?_)
           refine D5 rfl rfl rfl (fun g29=>?_) (fun g29=>?_)
           ·replace h:=U3 h g29
            refine oB 4 rfl ?_
            cases h
            exact rfl
           ·replace h:=U4 h g29
            refine oB 4 rfl ?_
            cases h
            exact rfl
          ·obtain ⟨x560,rfl⟩:∃ q,q = y27:=⟨_,rfl⟩
           refine eI rfl h (fun h=>?_) fun h=>?_
           ·refine o6 (oB 1 rfl ?_)
            cases h
            exact rfl
           ·obtain ⟨y31,g32,h⟩:=j5 h
            refine Y5 [(2,.ptr 1 0),(4,.str r5),(6,.st 2 l6 a4J),(9,.i 6),(66,.bool y31)] [(0,.row [.sl q9 l1,.i p9,.i b0i,.i j6]),(1,.row [.i 0,.str [],.i 0,.st 3 l6 ([]:List Typ)]),(2,.tip (tpe 4 (List.length a4J)) (List.length a4J)),(3,.tip 0 0)] rfl ?_ ?_
            ·replace h:=g32
             clear g32
             refine o6 (oA 4 rfl ?_)
             refine D5 rfl rfl rfl (fun g33=>?_) (fun g33=>?_)
             ·replace h:=U3 h g33
              refine oB 4 rfl ?_
              cases h
              exact rfl
             ·replace h:=U4 h g33
              refine oB 4 rfl ?_
              cases h
              exact rfl
            ·obtain ⟨x561,rfl⟩:∃ q,q = y31:=⟨_,rfl⟩
             refine eI rfl h (fun h=>?_) fun h=>?_
             ·refine o6 (oB 1 rfl ?_)
              cases h
              exact rfl
             ·obtain ⟨y35,g36,h⟩:=j5 h
              refine Y5 [(2,.ptr 1 0),(4,.str r5),(6,.st 2 l6 a4J),(9,.i 6),(74,.bool y35)] [(0,.row [.sl q9 l1,.i p9,.i b0i,.i j6]),(1,.row [.i 0,.str [],.i 0,.st 3 l6 ([]:List Typ)]),(2,.tip (tpe 4 (List.length a4J)) (List.length a4J)),(3,.tip 0 0)] rfl ?_ ?_
              ·replace h:=g36
               clear g36
               refine o6 (oA 4 rfl ?_)
               refine D5 rfl rfl rfl (fun g37=>?_) (fun g37=>?_)
               ·replace h:=U3 h g37
                refine oB 4 rfl ?_
                cases h
                exact rfl
               ·replace h:=U4 h g37
                refine oB 4 rfl ?_
                cases h
                exact rfl
              ·obtain ⟨b5M,rfl⟩:∃ q,q = y35:=⟨_,rfl⟩
               refine eI rfl h (fun h=>?_) fun h=>?_
               ·refine o6 (oB 1 rfl ?_)
                cases h
                exact rfl
               ·refine o8 ?_
                cases h
                exact rfl
   ·obtain ⟨b4H,rfl⟩:∃ q,q = y13:=⟨_,rfl⟩
    obtain ⟨y39,g40,h⟩:=j5 h
    refine Y5 [(2,.ptr 1 0),(4,.str y39),(6,.st 2 l6 a4J),(9,.i b4H)] [(0,.row [.sl q9 l1,.i p9,.i b0i,.i j6]),(1,.row [.i 0,.str [],.i 0,.st 3 l6 ([]:List Typ)]),(2,.tip (tpe 4 (List.length a4J)) (List.length a4J)),(3,.tip 0 0)] rfl ?_ ?_
    ·replace h:=g40
     clear g40
     refine eSG (oB 2 rfl ?_)
     refine eI rfl h (fun h=>?_) fun h=>?_
     ·refine o6 (oB 1 rfl ?_)
      cases h
      exact rfl
     ·refine o8 ?_
      cases h
      exact rfl
    ·obtain ⟨s564,rfl⟩:∃ q,q = y39:=⟨_,rfl⟩
     refine eSG (oA 3 rfl ?_)
     refine oD ?_
     refine oB 2 rfl ?_
     cases h
     exact o5 ⟨_,_,_,rfl,rfl,rfl⟩
  ·subst hz
   rcases res with ⟨_ | _ | _ | _,_,_⟩ <;> first | exact absurd rfl hn | exact hr.elim | (cases h; exact hr)
theorem A7.ok:∀ n,(A7.fs n).Ok
 | 0=>⟨(fun h=>by cases h),(fun h=>by cases h),(fun h=>by cases h)⟩
 | n + 1=>⟨(fun h=>b0u n (A7.ok n) h),(fun h=>a8N n (A7.ok n) h),(fun h=>a9A n (A7.ok n) h)⟩
theorem a4E {n:Nat} {l1:List Tok} {p9:Int} {at3:Int} {j6:Int} {r:Typ × Bool × Int} (h:K6 n l1 p9 at3 j6 = some r) :
  E env (.call 66 [.ptr 0 0]) (hR q9 l1 p9 at3 j6) = some (a3i l1 p9 at3 j6 r):=(A7.ok n).K6 h
theorem b0Y {n:Nat} {l1:List Tok} {p9:Int} {at3:Int} {j6:Int} {r:Typ × Bool × Int} (h:U5 n l1 p9 at3 j6 = some r) :
  E env (.call 139 [.ptr 0 0]) (hR q9 l1 p9 at3 j6) = some (a2X l1 p9 at3 j6 r):=(A7.ok n).U5 h
end Go.Proofs.YtmonfppdiehlpaaGreatDoor
namespace Go.Proofs.YtmonfppdiehlpaaGreatDoor
open Go Go.Vm
theorem a9R {n:Nat} {l1:List Nod} {l2:List Tok} {L6:Int} {at4:Int} {G7:Int} {r:List Nod × Bool × Int} (h:a1H n l1 l2 L6 at4 G7 = some r) :
  E env (.call 172 [.ptr 0 0,.st 1 A9 l1]) [(0,.row [.sl q9 l2,.i L6,.i at4,.i G7]),(1,.tip (tpe 10 (List.length l1)) (List.length l1))] = some (a5f l1 l2 L6 at4 G7 r):=by
 unfold a1H at h
 refine F4 rfl Tryz.func172 rfl rfl ?_
 refine eSG (oB 2 rfl (p8 (eSG (oA 1 rfl ?_))))
 obtain ⟨⟨r6,at7⟩,g1,h⟩:=j5 h
 refine oV (u6 g1) ?_
 refine A8 ?_
 refine eI rfl h (fun h=>?_) fun h=>?_
 ·refine eSG (oB 3 rfl ?_)
  cases h
  exact o5 ⟨_,_,_,rfl,rfl,rfl⟩
 ·refine o8 ?_
  obtain ⟨y3,g4,h⟩:=O4 h
  refine Q6 (KR:=fun r=>a2s env 172 2 Tryz.f172.results.toList (a5f l1 l2 L6 at4 G7 r)) y3 (fun z24=>[(0,.ptr 0 0),(1,.st 1 A9 z24.1)]) (fun z24=>[(0,.row [.sl q9 l2,.i L6,.i z24.2,.i G7]),(1,.tip (tpe 10 (List.length z24.1)) (List.length z24.1))]) rfl ?_ (fun z24 hx=>?_) (fun r res hz hr hn=>?_)
  ·replace h:=g4
   clear g4
   refine eSG (oB 1 rfl ?_)
   refine C9 ?_
   refine P7 rfl ?_
   revert y3
   refine X8 (fun m (x:List Nod × Bool × Int)=>Y8 n L6 l2 G7 m x.1 x.2.1 x.2.2) (fun x=>[(0,.ptr 0 0),(1,.st 1 A9 x.1),(6,.bool x.2.1)]) (fun x=>[(0,.row [.sl q9 l2,.i L6,.i x.2.2,.i G7]),(1,.tip (tpe 10 (List.length x.1)) (List.length x.1))]) _ (fun _=>rfl) (fun m4 x y ih h=>?_) n (l1,true,at7)
   obtain ⟨b2t,c0j,b5R⟩:=x
   rw [Y8] at h
   refine p8 (eSG (oB 1 rfl ?_))
   refine eI rfl h (fun h=>?_) fun h=>?_
   ·refine o8 ?_
    refine C9 ?_
    refine eSG (oA 1 rfl ?_)
    obtain ⟨r8,g6,h⟩:=j5 h
    refine oV (K4 g6) ?_
    refine oD ?_
    refine oB 2 rfl ?_
    obtain ⟨y7,g8,h⟩:=j5 h
    refine Y5 [(0,.ptr 0 0),(1,.st 1 A9 b2t),(7,.ptr 2 0)] [(0,.row [.sl q9 l2,.i L6,.i y7.1,.i G7]),(1,.tip (tpe 10 (List.length b2t)) (List.length b2t)),(2,.row [.i 10,.str [],.i y7.2,.i 0,.str [],.i 0,.st 3 l6 ([]:List Typ),.st 4 l6 ([]:List Typ),.st 5 A9 ([]:List Nod),.i r8]),(3,.tip 0 0),(4,.tip 0 0),(5,.tip 0 0)] rfl ?_ ?_
    ·replace h:=g8
     clear g8
     refine eSG (oA 1 rfl ?_)
     obtain ⟨⟨r9,at10⟩,g9,h⟩:=j5 h
     refine oV (I6 g9) ?_
     refine A8 ?_
     refine eI rfl h (fun h=>?_) fun h=>?_
     ·refine o6 (oB 2 rfl ?_)
      cases h
      exact rfl
     ·refine eSG (oA 1 rfl ?_)
      obtain ⟨⟨r11,at12⟩,g11,h⟩:=j5 h
      refine oV (I6 g11) ?_
      refine A8 ?_
      refine eI rfl h (fun h=>?_) fun h=>?_
      ·refine o6 (oB 2 rfl ?_)
       cases h
       exact rfl
      ·refine o8 ?_
       cases h
       exact rfl
    ·obtain ⟨a7l,n520⟩:=y7
     refine eSG (oA 1 rfl ?_)
     obtain ⟨⟨r13,r14,at15⟩,g13,h⟩:=j5 h
     refine oV (I9 g13) ?_
     refine oB 5 rfl (p8 ?_)
     obtain ⟨y14,g15,h⟩:=j5 h
     refine Y5 [(0,.ptr 0 0),(1,.st 1 A9 b2t),(7,.ptr 2 0),(8,.str r13),(37,.bool y14.1)] [(0,.row [.sl q9 l2,.i L6,.i y14.2,.i G7]),(1,.tip (tpe 10 (List.length b2t)) (List.length b2t)),(2,.row [.i 10,.str [],.i n520,.i 0,.str [],.i 0,.st 3 l6 ([]:List Typ),.st 4 l6 ([]:List Typ),.st 5 A9 ([]:List Nod),.i r8]),(3,.tip 0 0),(4,.tip 0 0),(5,.tip 0 0)] rfl ?_ ?_
     ·replace h:=g15
      clear g15
      refine o6 (oA 3 rfl ?_)
      refine D5 rfl rfl rfl (fun g16=>?_) (fun g16=>?_)
      ·replace h:=U3 h g16
       refine oB 4 rfl ?_
       cases h
       exact rfl
      ·replace h:=U4 h g16
       refine oA 1 rfl ?_
       obtain ⟨⟨r16,at17⟩,g17,h⟩:=j5 h
       refine oV (u6 g17) ?_
       refine oB 2 rfl ?_
       cases h
       exact rfl
     ·obtain ⟨x521,a8c⟩:=y14
      refine eI rfl h (fun h=>?_) fun h=>?_
      ·refine eSG (oB 3 rfl ?_)
       cases h
       exact o5 ⟨_,rfl,_,_,_,rfl,rfl,rfl⟩
      ·refine o8 (eSG (oB 3 rfl (eSG (oA 1 rfl ?_))))
       obtain ⟨⟨r18,r19,at20⟩,g19,h⟩:=j5 h
       obtain ⟨r18_0,r18_1,r18_2,r18_3⟩:=r18
       refine oV (a4E g19) ?_
       refine oB 6 rfl (p8 (eSG (oB 2 rfl ?_)))
       refine eI rfl h (fun h=>?_) fun h=>?_
       ·refine eSG (oB 3 rfl ?_)
        cases h
        exact o5 ⟨_,rfl,_,_,_,rfl,rfl,rfl⟩
       ·refine o8 (eSG (oB 3 rfl (eSG (oA 3 rfl ?_))))
        obtain ⟨l21,g21,h⟩:=j5 h
        refine oP Z7 g21 ?_
        refine oB 1 rfl (o6 (oA 1 rfl ?_))
        obtain ⟨⟨r22,at23⟩,g22,h⟩:=j5 h
        refine oV (u6 g22) ?_
        refine oB 1 rfl ?_
        exact ⟨_,_,rfl,ih (_,_,_) _ h⟩
   ·refine M4 ?_
    cases h
    exact ⟨_,rfl,rfl⟩
  ·subst hx
   obtain ⟨l523,b0B⟩:=z24
   refine eSG (oA 1 rfl ?_)
   obtain ⟨⟨r24,at25⟩,g23,h⟩:=j5 h
   refine oV (u6 g23) ?_
   refine oB 1 rfl (eSG (oB 4 rfl ?_))
   cases h
   exact o5 ⟨_,_,_,rfl,rfl,rfl⟩
  ·subst hz
   rcases res with ⟨_ | _ | _ | _,_,_⟩ <;> first | exact absurd rfl hn | exact hr.elim | (cases h; exact hr)
structure I7.Ok (Φ:I7):Prop where
 O6:∀ {l1:List Tok} {p9:Int} {at3:Int} {j6:Int} {r:Nod × Bool × Int},Φ.O6 l1 p9 at3 j6 = some r -> E env (.call 276 [.ptr 0 0]) (hR q9 l1 p9 at3 j6) = some (a11 l1 p9 at3 j6 r)
theorem a7K (n:Nat) {Φ:I7} (hΦ:Φ.Ok) {l1:List Tok} {p9:Int} {at3:Int} {j6:Int} {r:Nod × Bool × Int} (h:a1s n Φ l1 p9 at3 j6 = some r) :
  E env (.call 276 [.ptr 0 0]) (hR q9 l1 p9 at3 j6) = some (a11 l1 p9 at3 j6 r):=by
 unfold a1s at h
 refine F4 rfl Tryz.func276 rfl rfl ?_
 refine eSG (oB 2 rfl (eSG (oA 1 rfl ?_)))
 obtain ⟨r5,g1,h⟩:=j5 h
 refine oV (K4 g1) ?_
 refine oD ?_
 refine oB 2 rfl (p8 (eSG (oA 1 rfl ?_)))
 obtain ⟨⟨r6,r7,at8⟩,g2,h⟩:=j5 h
 refine oV (I9 g2) ?_
 refine oB 5 rfl (eSG (oB 1 rfl ?_))
 refine eI rfl h (fun h=>?_) fun h=>?_
 ·refine p8 (eSG (oB 2 rfl ?_))
  refine eI rfl h (fun h=>?_) fun h=>?_
  ·refine eSG (oB 2 rfl (eSG (oB 3 rfl ?_)))
   cases h
   exact o5 ⟨_,_,_,rfl,rfl,rfl⟩
  ·refine o8 (eSG (oB 5 rfl (eSG (oB 3 rfl ?_))))
   cases h
   exact o5 ⟨_,_,_,rfl,rfl,rfl⟩
 ·refine o8 (p8 (eSG (oA 1 rfl ?_)))
  obtain ⟨⟨r9,r10,at11⟩,g5,h⟩:=j5 h
  refine oV (I9 g5) ?_
  refine oB 5 rfl (eSG (oB 1 rfl ?_))
  refine eI rfl h (fun h=>?_) fun h=>?_
  ·refine eSG (oA 1 rfl ?_)
   obtain ⟨r12,g7,h⟩:=j5 h
   refine F7 rfl rfl rfl rfl rfl (a6L g7) rfl ?_
   refine oB 4 rfl (eSG (oB 3 rfl ?_))
   cases h
   exact o5 ⟨_,_,_,rfl,rfl,rfl⟩
  ·refine o8 (p8 (eSG (oA 1 rfl ?_)))
   obtain ⟨⟨r13,at14⟩,g8,h⟩:=j5 h
   refine oV (u6 g8) ?_
   refine A8 ?_
   refine eI rfl h (fun h=>?_) fun h=>?_
   ·refine eSG (oA 1 rfl ?_)
    obtain ⟨⟨r15,r16,at17⟩,g10,h⟩:=j5 h
    refine oV (I9 g10) ?_
    refine oB 5 rfl (eSG (oA 1 rfl ?_))
    obtain ⟨r18,g11,h⟩:=j5 h
    refine F7 rfl rfl rfl rfl rfl (a6L g11) rfl ?_
    refine oB 5 rfl (eSG (oB 4 rfl ?_))
    cases h
    exact o5 ⟨_,_,_,rfl,rfl,rfl⟩
   ·refine o8 (p8 (eSG (oA 1 rfl ?_)))
    obtain ⟨⟨r19,r20,at21⟩,g12,h⟩:=j5 h
    refine oV (I9 g12) ?_
    refine oB 5 rfl (eSG (oB 1 rfl ?_))
    refine eI rfl h (fun h=>?_) fun h=>?_
    ·refine eSG (oB 5 rfl (eSG (oB 3 rfl ?_)))
     cases h
     exact o5 ⟨_,_,_,rfl,rfl,rfl⟩
    ·refine o8 (p8 (eSG (oA 1 rfl ?_)))
     obtain ⟨⟨r22,at23⟩,g14,h⟩:=j5 h
     refine oV (I6 g14) ?_
     refine A8 ?_
     refine eI rfl h (fun h=>?_) fun h=>?_
     ·refine eSG (oB 4 rfl (eSG (oB 3 rfl ?_)))
      cases h
      exact o5 ⟨_,_,_,rfl,rfl,rfl⟩
     ·refine o8 (p8 (eSG (oA 1 rfl ?_)))
      obtain ⟨⟨r24,at25⟩,g16,h⟩:=j5 h
      refine oV (I6 g16) ?_
      refine A8 ?_
      refine eI rfl h (fun h=>?_) fun h=>?_
      ·refine eSG (oB 2 rfl (eSG (oB 3 rfl ?_)))
       cases h
       exact o5 ⟨_,_,_,rfl,rfl,rfl⟩
      ·refine o8 (p8 (eSG (oA 1 rfl ?_)))
       obtain ⟨⟨r26,at27⟩,g18,h⟩:=j5 h
       refine oV (u6 g18) ?_
       refine oB 1 rfl ?_
       refine eI rfl h (fun h=>?_) fun h=>?_
       ·refine eSG (oB 3 rfl ?_)
        cases h
        exact o5 ⟨_,_,_,rfl,rfl,rfl⟩
       ·refine o8 (eSG (oA 1 rfl ?_))
        obtain ⟨⟨r28,r29,at30⟩,g20,h⟩:=j5 h
        refine oV (I9 g20) ?_
        refine oB 5 rfl (p8 (eSG (oB 2 rfl ?_)))
        refine eI rfl h (fun h=>?_) fun h=>?_
        ·refine eSG (oB 3 rfl ?_)
         cases h
         exact o5 ⟨_,_,_,rfl,rfl,rfl⟩
        ·refine o8 (eSG (oB 5 rfl (p8 (eSG (oA 1 rfl ?_)))))
         obtain ⟨⟨r31,at32⟩,g22,h⟩:=j5 h
         refine oV (u6 g22) ?_
         refine oB 1 rfl ?_
         refine eI rfl h (fun h=>?_) fun h=>?_
         ·refine eSG (oB 3 rfl ?_)
          cases h
          exact o5 ⟨_,_,_,rfl,rfl,rfl⟩
         ·refine o8 (eSG (oB 1 rfl ?_))
          obtain ⟨y24,g25,h⟩:=O4 h
          refine Q6 (KR:=fun r=>a2s env 276 1 Tryz.f276.results.toList (a11 l1 p9 at3 j6 r)) y24 (fun z32=>[(0,.ptr 0 0),(2,.ptr 1 0),(4,.ptr 2 0),(15,.st 3 A9 z32.1)]) (fun z32=>[(0,.row [.sl q9 l1,.i p9,.i z32.2,.i j6]),(1,.row [.i 0,.str [],.i 0,.i 0,.str [],.i 0,.st 4 l6 ([]:List Typ),.st 5 l6 ([]:List Typ),.st 6 A9 ([]:List Nod),.i 0]),(2,.row [.i 45,.str r28,.i 0,.i 0,.str [],.i 0,.st 7 l6 ([]:List Typ),.st 8 l6 ([]:List Typ),.st 9 A9 ([]:List Nod),.i r5]),(3,.tip (tpe 10 (List.length z32.1)) (List.length z32.1)),(4,.tip 0 0),(5,.tip 0 0),(6,.tip 0 0),(7,.tip 0 0),(8,.tip 0 0),(9,.tip 0 0)]) rfl ?_ (fun z32 hx=>?_) (fun r res hz hr hn=>?_)
          ·replace h:=g25
           clear g25
           refine eSG (oB 1 rfl ?_)
           refine C9 ?_
           refine P7 rfl ?_
           revert y24
           refine X8 (fun m (x:List Nod × Bool × Int)=>V9 n Φ p9 l1 j6 r28 r5 m x.1 x.2.1 x.2.2) (fun x=>[(0,.ptr 0 0),(2,.ptr 1 0),(4,.ptr 2 0),(15,.st 3 A9 x.1),(16,.bool x.2.1)]) (fun x=>[(0,.row [.sl q9 l1,.i p9,.i x.2.2,.i j6]),(1,.row [.i 0,.str [],.i 0,.i 0,.str [],.i 0,.st 4 l6 ([]:List Typ),.st 5 l6 ([]:List Typ),.st 6 A9 ([]:List Nod),.i 0]),(2,.row [.i 45,.str r28,.i 0,.i 0,.str [],.i 0,.st 7 l6 ([]:List Typ),.st 8 l6 ([]:List Typ),.st 9 A9 ([]:List Nod),.i r5]),(3,.tip (tpe 10 (List.length x.1)) (List.length x.1)),(4,.tip 0 0),(5,.tip 0 0),(6,.tip 0 0),(7,.tip 0 0),(8,.tip 0 0),(9,.tip 0 0)]) _ (fun _=>rfl) (fun m37 x y ih h=>?_) n (([]:List Nod),true,at32)
           obtain ⟨l504,c0K,a4K⟩:=x
           rw [V9] at h
           refine p8 (eSG (oB 1 rfl ?_))
           refine eI rfl h (fun h=>?_) fun h=>?_
           ·refine o8 ?_
            refine C9 ?_
            refine eSG (oA 1 rfl ?_)
            obtain ⟨⟨r33,r34,at35⟩,g27,h⟩:=j5 h
            obtain ⟨r33_0,r33_1,r33_2,⟨r33_3,r33_4,r33_5,r33_6⟩,r33_7,r33_8,r33_9⟩:=r33
            refine oV (hΦ.O6 g27) ?_
            refine oB 6 rfl (p8 (eSG (oB 2 rfl ?_)))
            refine eI rfl h (fun h=>?_) fun h=>?_
            ·refine eSG (oB 3 rfl ?_)
             cases h
             exact o5 ⟨_,rfl,_,_,_,rfl,rfl,rfl⟩
            ·refine o8 (eSG (oA 3 rfl ?_))
             obtain ⟨l36,g29,h⟩:=j5 h
             refine oP Z7 g29 ?_
             refine oB 1 rfl (o6 (oA 1 rfl ?_))
             obtain ⟨⟨r37,at38⟩,g30,h⟩:=j5 h
             refine oV (u6 g30) ?_
             refine oB 1 rfl ?_
             exact ⟨_,_,rfl,ih (_,_,_) _ h⟩
           ·refine M4 ?_
            cases h
            exact ⟨_,rfl,rfl⟩
          ·subst hx
           obtain ⟨l513,b2N⟩:=z32
           refine eSG (oB 3 rfl (eSG (oA 1 rfl ?_)))
           obtain ⟨⟨r39,at40⟩,g31,h⟩:=j5 h
           refine oV (u6 g31) ?_
           refine oB 1 rfl (eSG (oB 4 rfl ?_))
           cases h
           exact o5 ⟨_,_,_,rfl,rfl,rfl⟩
          ·subst hz
           rcases res with ⟨_ | _ | _ | _,_,_⟩ <;> first | exact absurd rfl hn | exact hr.elim | (cases h; exact hr)
theorem I7.ok:∀ n,(I7.fs n).Ok
 | 0=>⟨(fun h=>by cases h)⟩
 | n + 1=>⟨(fun h=>a7K n (I7.ok n) h)⟩
theorem a9v {n:Nat} {l1:List Tok} {p9:Int} {at3:Int} {j6:Int} {r:Nod × Bool × Int} (h:O6 n l1 p9 at3 j6 = some r) :
  E env (.call 276 [.ptr 0 0]) (hR q9 l1 p9 at3 j6) = some (a11 l1 p9 at3 j6 r):=(I7.ok n).O6 h
theorem b4O {n:Nat} {n1:Nod} {r:Bool} (h:a6p n n1 = some r) :
  E env (.call 277 [.agg (c0 n1.op n1.s n1.n n1.t.kind n1.t.name n1.t.n (.sl l6 n1.t.args) (.sl l6 n1.ts) (.sl A9 n1.l) n1.at_)]) [] = some (b4t n1 r):=by
 unfold a6p at h
 obtain ⟨n1_0,n1_1,n1_2,⟨n1_3,n1_4,n1_5,n1_6⟩,n1_7,n1_8,n1_9⟩:=n1
 refine F4 rfl Tryz.func277 rfl rfl ?_
 refine eSG (oB 2 rfl ?_)
 obtain ⟨y1,g2,h⟩:=j5 h
 refine Y5 [(1,.ptr 0 0)] [(0,.row (c0 y1.op y1.s y1.n y1.t.kind y1.t.name y1.t.n (.sl l6 y1.t.args) (.sl l6 y1.ts) (.sl A9 y1.l) y1.at_))] rfl ?_ ?_
 ·replace h:=g2
  clear g2
  refine C9 ?_
  refine P7 rfl ?_
  revert y1
  refine X8 (fun m (x:Nod)=>a1v n m x) (fun x=>[(1,.ptr 0 0)]) (fun x=>[(0,.row (c0 x.op x.s x.n x.t.kind x.t.name x.t.n (.sl l6 x.t.args) (.sl l6 x.ts) (.sl A9 x.l) x.at_))]) _ (fun _=>rfl) (fun m1 x y ih h=>?_) n (Nod.mk n1_0 n1_1 n1_2 (Typ.mk n1_3 n1_4 n1_5 n1_6) n1_7 n1_8 n1_9)
  obtain ⟨n502,rfl⟩:∃ q,q = x:=⟨_,rfl⟩
  obtain ⟨n502_0,n502_1,n502_2,⟨n502_3,n502_4,n502_5,n502_6⟩,n502_7,n502_8,n502_9⟩:=n502
  replace h:a1v n (m1 + 1) (Nod.mk n502_0 n502_1 n502_2 (Typ.mk n502_3 n502_4 n502_5 n502_6) n502_7 n502_8 n502_9) = some y:=h
  rw [a1v] at h
  refine p8 ?_
  obtain ⟨y3,g4,h⟩:=j5 h
  refine Y5 [(1,.ptr 0 0),(11,.bool y3)] [(0,.row (c0 n502_0 n502_1 n502_2 n502_3 n502_4 n502_5 (.sl l6 n502_6) (.sl l6 n502_7) (.sl A9 n502_8) n502_9))] rfl ?_ ?_
  ·replace h:=g4
   clear g4
   refine o6 (oA 4 rfl ?_)
   refine D5 rfl rfl rfl (fun g5=>?_) (fun g5=>?_)
   ·replace h:=U3 h g5
    refine oB 5 rfl ?_
    cases h
    exact rfl
   ·replace h:=U4 h g5
    refine oB 5 rfl ?_
    cases h
    exact rfl
  ·obtain ⟨x504,rfl⟩:∃ q,q = y3:=⟨_,rfl⟩
   refine eI rfl h (fun h=>?_) fun h=>?_
   ·refine o8 ?_
    refine C9 ?_
    refine o6 (oA 2 rfl ?_)
    obtain ⟨x2,g7,h⟩:=j5 h
    obtain ⟨x2_0,x2_1,x2_2,⟨x2_3,x2_4,x2_5,x2_6⟩,x2_7,x2_8,x2_9⟩:=x2
    refine a1u Z7 g7 rfl rfl rfl rfl rfl rfl rfl rfl ?_
    refine a4m (c:=(c0 x2_0 x2_1 x2_2 x2_3 x2_4 x2_5 (.sl l6 x2_6) (.sl l6 x2_7) (.sl A9 x2_8) x2_9)) rfl rfl rfl rfl rfl rfl rfl ?_
    refine oB 1 rfl ?_
    exact ⟨_,_,rfl,ih _ _ h⟩
   ·refine M4 ?_
    cases h
    exact rfl
 ·obtain ⟨n505,rfl⟩:∃ q,q = y1:=⟨_,rfl⟩
  obtain ⟨n505_0,n505_1,n505_2,⟨n505_3,n505_4,n505_5,n505_6⟩,n505_7,n505_8,n505_9⟩:=n505
  refine eSG (oB 4 rfl ?_)
  cases h
  exact o5 ⟨_,_,_,rfl,rfl,rfl⟩
end Go.Proofs.YtmonfppdiehlpaaGreatDoor
namespace Go.Proofs.YtmonfppdiehlpaaGreatDoor
open Go Go.Vm
structure d9.Ok (Φ:d9):Prop where
 E5:∀ {l1:List Tok} {p9:Int} {at3:Int} {j6:Int} {r:Nod × Bool × Int × Int},Φ.E5 l1 p9 at3 j6 = some r -> E env (.call 63 [.ptr 0 0]) (hR q9 l1 p9 at3 j6) = some (a4c l1 p9 at3 j6 r)
 J7:∀ {k1:Int} {l2:List Tok} {L6:Int} {at4:Int} {G7:Int} {r:Nod × Bool × Int × Int},Φ.J7 k1 l2 L6 at4 G7 = some r -> E env (.call 122 [.ptr 0 0,.i k1]) (hR q9 l2 L6 at4 G7) = some (a2C k1 l2 L6 at4 G7 r)
 M8:∀ {l1:List Tok} {p9:Int} {at3:Int} {j6:Int} {r:Nod × Bool × Int × Int},Φ.M8 l1 p9 at3 j6 = some r -> E env (.call 186 [.ptr 0 0]) (hR q9 l1 p9 at3 j6) = some (a5G l1 p9 at3 j6 r)
 a0P:∀ {l1:List Tok} {p9:Int} {at3:Int} {j6:Int} {r:Nod × Bool × Int × Int},Φ.a0P l1 p9 at3 j6 = some r -> E env (.call 218 [.ptr 0 0]) (hR q9 l1 p9 at3 j6) = some (a3u l1 p9 at3 j6 r)
 a06:∀ {l1:List Tok} {p9:Int} {at3:Int} {j6:Int} {r:Nod × Bool × Int × Int},Φ.a06 l1 p9 at3 j6 = some r -> E env (.call 236 [.ptr 0 0]) (hR q9 l1 p9 at3 j6) = some (a2W l1 p9 at3 j6 r)
 L9:∀ {l1:List Nod} {l2:List Tok} {L6:Int} {at4:Int} {G7:Int} {r:List Nod × Bool × Int × Int × List Nod},Φ.L9 l1 l2 L6 at4 G7 = some r -> E env (.call 237 [.ptr 0 0,.st 1 A9 l1]) [(0,.row [.sl q9 l2,.i L6,.i at4,.i G7]),(1,.tip (tpe 10 (List.length l1)) (List.length l1))] = some (a4e l1 l2 L6 at4 G7 r)
 Y1:∀ {l1:List Tok} {p9:Int} {at3:Int} {j6:Int} {r:Nod × Bool × Int × Int},Φ.Y1 l1 p9 at3 j6 = some r -> E env (.call 259 [.ptr 0 0]) (hR q9 l1 p9 at3 j6) = some (a3H l1 p9 at3 j6 r)
 a0T:∀ {l1:List Tok} {p9:Int} {at3:Int} {j6:Int} {r:Nod × Bool × Int × Int},Φ.a0T l1 p9 at3 j6 = some r -> E env (.call 260 [.ptr 0 0]) (hR q9 l1 p9 at3 j6) = some (a3t l1 p9 at3 j6 r)
 S9:∀ {l1:List Tok} {p9:Int} {at3:Int} {j6:Int} {r:List Nod × Bool × Int × Int},Φ.S9 l1 p9 at3 j6 = some r -> E env (.call 214 [.ptr 0 0]) (hR q9 l1 p9 at3 j6) = some (a2E l1 p9 at3 j6 r)
 R5:∀ {l1:List Tok} {p9:Int} {at3:Int} {j6:Int} {r:Nod × Bool × Int × Int},Φ.R5 l1 p9 at3 j6 = some r -> E env (.call 234 [.ptr 0 0]) (hR q9 l1 p9 at3 j6) = some (a4q l1 p9 at3 j6 r)
 J4:∀ {l1:List Tok} {p9:Int} {at3:Int} {j6:Int} {r:Nod × Bool × Int × Int},Φ.J4 l1 p9 at3 j6 = some r -> E env (.call 169 [.ptr 0 0]) (hR q9 l1 p9 at3 j6) = some (a5F l1 p9 at3 j6 r)
 a1f:∀ {l1:List Tok} {p9:Int} {at3:Int} {j6:Int} {r:Nod × Bool × Int × Int},Φ.a1f l1 p9 at3 j6 = some r -> E env (.call 254 [.ptr 0 0]) (hR q9 l1 p9 at3 j6) = some (a2G l1 p9 at3 j6 r)
 Q8:∀ {l1:List Tok} {p9:Int} {at3:Int} {j6:Int} {r:Nod × Bool × Int × Int},Φ.Q8 l1 p9 at3 j6 = some r -> E env (.call 255 [.ptr 0 0]) (hR q9 l1 p9 at3 j6) = some (a3U l1 p9 at3 j6 r)
 a1g:∀ {at1:Int} {l2:List Tok} {L6:Int} {at4:Int} {G7:Int} {r:List Nod × Bool × Int × Int},Φ.a1g at1 l2 L6 at4 G7 = some r -> E env (.call 256 [.ptr 0 0,.i at1]) (hR q9 l2 L6 at4 G7) = some (a2B at1 l2 L6 at4 G7 r)
 a05:∀ {l1:List Tok} {p9:Int} {at3:Int} {j6:Int} {r:Nod × Bool × Int × Int},Φ.a05 l1 p9 at3 j6 = some r -> E env (.call 257 [.ptr 0 0]) (hR q9 l1 p9 at3 j6) = some (a5d l1 p9 at3 j6 r)
 a1G:∀ {l1:List Tok} {p9:Int} {at3:Int} {j6:Int} {r:Nod × Bool × Int × Int},Φ.a1G l1 p9 at3 j6 = some r -> E env (.call 261 [.ptr 0 0]) (hR q9 l1 p9 at3 j6) = some (a4b l1 p9 at3 j6 r)
theorem a98 (n:Nat) {Φ:d9} (hΦ:Φ.Ok) {l1:List Tok} {p9:Int} {at3:Int} {j6:Int} {r:Nod × Bool × Int × Int} (h:a2p n Φ l1 p9 at3 j6 = some r) :
  E env (.call 63 [.ptr 0 0]) (hR q9 l1 p9 at3 j6) = some (a4c l1 p9 at3 j6 r):=by
 unfold a2p at h
 refine F4 rfl Tryz.func63 rfl rfl ?_
 refine eSG (oB 2 rfl (eSG (oA 1 rfl ?_)))
 obtain ⟨⟨r5,r6,at7,a3r⟩,g1,h⟩:=j5 h
 obtain ⟨r5_0,r5_1,r5_2,⟨r5_3,r5_4,r5_5,r5_6⟩,r5_7,r5_8,r5_9⟩:=r5
 refine oV (hΦ.J7 g1) ?_
 refine oB 4 rfl ?_
 cases h
 exact o5 ⟨_,_,_,rfl,rfl,rfl⟩
theorem a9i (n:Nat) {Φ:d9} (hΦ:Φ.Ok) {k1:Int} {l2:List Tok} {L6:Int} {at4:Int} {G7:Int} {r:Nod × Bool × Int × Int} (h:a0R n Φ k1 l2 L6 at4 G7 = some r) :
  E env (.call 122 [.ptr 0 0,.i k1]) (hR q9 l2 L6 at4 G7) = some (a2C k1 l2 L6 at4 G7 r):=by
 unfold a0R at h
 refine F4 rfl Tryz.func122 rfl rfl ?_
 refine eSG (oB 2 rfl (eSG ?_))
 obtain ⟨_,g1,h⟩:=j5 h
 refine F7 rfl rfl rfl rfl rfl (b4h g1) rfl ?_
 refine oB 1 rfl (p8 (eSG (oB 4 rfl ?_)))
 refine eI rfl h (fun h=>?_) fun h=>?_
 ·refine eSG (oA 1 rfl ?_)
  obtain ⟨⟨r6,r7,at8,b0c⟩,g3,h⟩:=j5 h
  obtain ⟨r6_0,r6_1,r6_2,⟨r6_3,r6_4,r6_5,r6_6⟩,r6_7,r6_8,r6_9⟩:=r6
  refine oV (hΦ.M8 g3) ?_
  refine oB 4 rfl ?_
  cases h
  exact o5 ⟨_,_,_,rfl,rfl,rfl⟩
 ·refine o8 (eSG (oA 3 rfl ?_))
  obtain ⟨⟨r10,r11,at12,a4R⟩,g4,h⟩:=j5 h
  obtain ⟨r10_0,r10_1,r10_2,⟨r10_3,r10_4,r10_5,r10_6⟩,r10_7,r10_8,r10_9⟩:=r10
  refine oV (hΦ.J7 g4) ?_
  refine oB 6 rfl ?_
  obtain ⟨y5,g6,h⟩:=O4 h
  refine Q6 (KR:=fun r=>a2s env 122 1 Tryz.f122.results.toList (a2C k1 l2 L6 at4 G7 r)) y5 (fun z30=>[(4,.ptr 1 0),(7,.ptr 2 0),(8,.bool z30.1)]) (fun z30=>[(0,.row [.sl q9 l2,.i L6,.i z30.2.1,.i z30.2.2.1]),(1,.row [.i 0,.str [],.i 0,.i 0,.str [],.i 0,.st 3 l6 ([]:List Typ),.st 4 l6 ([]:List Typ),.st 5 A9 ([]:List Nod),.i 0]),(2,.row (c0 z30.2.2.2.op z30.2.2.2.s z30.2.2.2.n z30.2.2.2.t.kind z30.2.2.2.t.name z30.2.2.2.t.n (.sl l6 z30.2.2.2.t.args) (.sl l6 z30.2.2.2.ts) (.sl A9 z30.2.2.2.l) z30.2.2.2.at_)),(3,.tip 0 0),(4,.tip 0 0),(5,.tip 0 0)]) rfl ?_ (fun z30 hx=>?_) (fun r res hz hr hn=>?_)
  ·replace h:=g6
   clear g6
   refine eSG (oB 1 rfl ?_)
   refine C9 ?_
   refine P7 rfl ?_
   revert y5
   refine X8 (fun m (x:Bool × Int × Int × Int × Nod)=>N7 n Φ L6 k1 l2 m x.1 x.2.1 x.2.2.1 x.2.2.2.1 x.2.2.2.2) (fun x=>[(0,.ptr 0 0),(1,.i k1),(4,.ptr 1 0),(6,.slice .sealed (List.length ([[[124,124]],[[38,38]],[[61,61],[33,61],[60],[60,61],[62],[62,61]],[[43],[45]],[[42],[47],[37]]]:List (List Str))) ((clSl clS) ([[[124,124]],[[38,38]],[[61,61],[33,61],[60],[60,61],[62],[62,61]],[[43],[45]],[[42],[47],[37]]]:List (List Str)))),(7,.ptr 2 0),(8,.bool x.1),(9,.i x.2.1)]) (fun x=>[(0,.row [.sl q9 l2,.i L6,.i x.2.2.1,.i x.2.2.2.1]),(1,.row [.i 0,.str [],.i 0,.i 0,.str [],.i 0,.st 3 l6 ([]:List Typ),.st 4 l6 ([]:List Typ),.st 5 A9 ([]:List Nod),.i 0]),(2,.row (c0 x.2.2.2.2.op x.2.2.2.2.s x.2.2.2.2.n x.2.2.2.2.t.kind x.2.2.2.2.t.name x.2.2.2.2.t.n (.sl l6 x.2.2.2.2.t.args) (.sl l6 x.2.2.2.2.ts) (.sl A9 x.2.2.2.2.l) x.2.2.2.2.at_)),(3,.tip 0 0),(4,.tip 0 0),(5,.tip 0 0)]) _ (fun _=>rfl) (fun m6 x y ih h=>?_) n (r11,0,at12,a4R,(Nod.mk r10_0 r10_1 r10_2 (Typ.mk r10_3 r10_4 r10_5 r10_6) r10_7 r10_8 r10_9))
   obtain ⟨b8t,n603,b7g,a9j,n606⟩:=x
   obtain ⟨n606_0,n606_1,n606_2,⟨n606_3,n606_4,n606_5,n606_6⟩,n606_7,n606_8,n606_9⟩:=n606
   replace h:N7 n Φ L6 k1 l2 (m6 + 1) b8t n603 b7g a9j (Nod.mk n606_0 n606_1 n606_2 (Typ.mk n606_3 n606_4 n606_5 n606_6) n606_7 n606_8 n606_9) = some y:=h
   rw [N7] at h
   refine p8 ?_
   obtain ⟨y7,g8,h⟩:=j5 h
   refine Y5 [(0,.ptr 0 0),(1,.i k1),(4,.ptr 1 0),(6,.slice .sealed (List.length ([[[124,124]],[[38,38]],[[61,61],[33,61],[60],[60,61],[62],[62,61]],[[43],[45]],[[42],[47],[37]]]:List (List Str))) ((clSl clS) ([[[124,124]],[[38,38]],[[61,61],[33,61],[60],[60,61],[62],[62,61]],[[43],[45]],[[42],[47],[37]]]:List (List Str)))),(7,.ptr 2 0),(8,.bool b8t),(9,.i n603),(38,.bool y7)] [(0,.row [.sl q9 l2,.i L6,.i b7g,.i a9j]),(1,.row [.i 0,.str [],.i 0,.i 0,.str [],.i 0,.st 3 l6 ([]:List Typ),.st 4 l6 ([]:List Typ),.st 5 A9 ([]:List Nod),.i 0]),(2,.row (c0 n606_0 n606_1 n606_2 n606_3 n606_4 n606_5 (.sl l6 n606_6) (.sl l6 n606_7) (.sl A9 n606_8) n606_9)),(3,.tip 0 0),(4,.tip 0 0),(5,.tip 0 0)] rfl ?_ ?_
   ·replace h:=g8
    clear g8
    refine o6 (oA 2 rfl ?_)
    refine D5 rfl rfl rfl (fun g9=>?_) (fun g9=>?_)
    ·replace h:=U3 h g9
     refine oA 3 rfl ?_
     refine D5 rfl rfl rfl (fun g10=>?_) (fun g10=>?_)
     ·replace h:=U3 h g10
      refine oB 4 rfl ?_
      cases h
      exact rfl
     ·replace h:=U4 h g10
      refine oB 4 rfl ?_
      cases h
      exact rfl
    ·replace h:=U4 h g9
     refine oB 7 rfl ?_
     cases h
     exact rfl
   ·obtain ⟨x616,rfl⟩:∃ q,q = y7:=⟨_,rfl⟩
    refine eI rfl h (fun h=>?_) fun h=>?_
    ·refine o8 ?_
     obtain ⟨y12,g13,h⟩:=a3W h
     refine Q6 (KR:=fun r=>a2s env 122 1 Tryz.f122.results.toList (a2C k1 l2 L6 at4 G7 r)) y12 (fun z29=>[(0,.ptr 0 0),(1,.i k1),(4,.ptr 1 0),(6,.slice .sealed (List.length ([[[124,124]],[[38,38]],[[61,61],[33,61],[60],[60,61],[62],[62,61]],[[43],[45]],[[42],[47],[37]]]:List (List Str))) ((clSl clS) ([[[124,124]],[[38,38]],[[61,61],[33,61],[60],[60,61],[62],[62,61]],[[43],[45]],[[42],[47],[37]]]:List (List Str)))),(7,.ptr 2 0),(8,.bool z29.1),(9,.i z29.2.1)]) (fun z29=>[(0,.row [.sl q9 l2,.i L6,.i z29.2.2.1,.i z29.2.2.2.1]),(1,.row [.i 0,.str [],.i 0,.i 0,.str [],.i 0,.st 3 l6 ([]:List Typ),.st 4 l6 ([]:List Typ),.st 5 A9 ([]:List Nod),.i 0]),(2,.row [.i 64,.str z29.2.2.2.2.1,.i 0,.i 0,.str [],.i 0,.st 6 l6 ([]:List Typ),.st 7 l6 ([]:List Typ),.st 8 A9 z29.2.2.2.2.2.1,.i z29.2.2.2.2.2.2]),(3,.tip 0 0),(4,.tip 0 0),(5,.tip 0 0),(6,.tip 0 0),(7,.tip 0 0),(8,.tip (tpe 10 (List.length z29.2.2.2.2.2.1)) (List.length z29.2.2.2.2.2.1))]) rfl ?_ (fun z29 hx=>?_) (fun r res hz hr hn=>?_)
     ·replace h:=g13
      clear g13
      refine C9 ?_
      refine eSG (oB 1 rfl ?_)
      obtain ⟨y14,g15,h⟩:=j5 h
      refine Y5 [(0,.ptr 0 0),(1,.i k1),(4,.ptr 1 0),(6,.slice .sealed (List.length ([[[124,124]],[[38,38]],[[61,61],[33,61],[60],[60,61],[62],[62,61]],[[43],[45]],[[42],[47],[37]]]:List (List Str))) ((clSl clS) ([[[124,124]],[[38,38]],[[61,61],[33,61],[60],[60,61],[62],[62,61]],[[43],[45]],[[42],[47],[37]]]:List (List Str)))),(7,.ptr 2 0),(9,.i y14.1),(10,.str y14.2.1)] [(0,.row [.sl q9 l2,.i L6,.i y14.2.2.1,.i y14.2.2.2.1]),(1,.row [.i 0,.str [],.i 0,.i 0,.str [],.i 0,.st 3 l6 ([]:List Typ),.st 4 l6 ([]:List Typ),.st 5 A9 ([]:List Nod),.i 0]),(2,.row (c0 y14.2.2.2.2.op y14.2.2.2.2.s y14.2.2.2.2.n y14.2.2.2.2.t.kind y14.2.2.2.2.t.name y14.2.2.2.2.t.n (.sl l6 y14.2.2.2.2.t.args) (.sl l6 y14.2.2.2.2.ts) (.sl A9 y14.2.2.2.2.l) y14.2.2.2.2.at_)),(3,.tip 0 0),(4,.tip 0 0),(5,.tip 0 0)] rfl ?_ ?_
      ·replace h:=g15
       clear g15
       refine eSG (oB 1 rfl ?_)
       refine C9 ?_
       refine P7 rfl ?_
       revert y14
       refine X8 (fun m (x:Int × Str × Int × Int × Int × Nod)=>Z5 n Φ L6 k1 l2 m x.1 x.2.1 x.2.2.1 x.2.2.2.1 x.2.2.2.2.1 x.2.2.2.2.2) (fun x=>[(0,.ptr 0 0),(1,.i k1),(4,.ptr 1 0),(6,.slice .sealed (List.length ([[[124,124]],[[38,38]],[[61,61],[33,61],[60],[60,61],[62],[62,61]],[[43],[45]],[[42],[47],[37]]]:List (List Str))) ((clSl clS) ([[[124,124]],[[38,38]],[[61,61],[33,61],[60],[60,61],[62],[62,61]],[[43],[45]],[[42],[47],[37]]]:List (List Str)))),(7,.ptr 2 0),(9,.i x.1),(10,.str x.2.1),(11,.i x.2.2.1)]) (fun x=>[(0,.row [.sl q9 l2,.i L6,.i x.2.2.2.1,.i x.2.2.2.2.1]),(1,.row [.i 0,.str [],.i 0,.i 0,.str [],.i 0,.st 3 l6 ([]:List Typ),.st 4 l6 ([]:List Typ),.st 5 A9 ([]:List Nod),.i 0]),(2,.row (c0 x.2.2.2.2.2.op x.2.2.2.2.2.s x.2.2.2.2.2.n x.2.2.2.2.2.t.kind x.2.2.2.2.2.t.name x.2.2.2.2.2.t.n (.sl l6 x.2.2.2.2.2.t.args) (.sl l6 x.2.2.2.2.2.ts) (.sl A9 x.2.2.2.2.2.l) x.2.2.2.2.2.at_)),(3,.tip 0 0),(4,.tip 0 0),(5,.tip 0 0)]) _ (fun _=>rfl) (fun m10 x y ih h=>?_) n (n603,[],0,b7g,a9j,(Nod.mk n606_0 n606_1 n606_2 (Typ.mk n606_3 n606_4 n606_5 n606_6) n606_7 n606_8 n606_9))
       obtain ⟨n617,op618,i619,b6P,a8M,n622⟩:=x
       obtain ⟨n622_0,n622_1,n622_2,⟨n622_3,n622_4,n622_5,n622_6⟩,n622_7,n622_8,n622_9⟩:=n622
       replace h:Z5 n Φ L6 k1 l2 (m10 + 1) n617 op618 i619 b6P a8M (Nod.mk n622_0 n622_1 n622_2 (Typ.mk n622_3 n622_4 n622_5 n622_6) n622_7 n622_8 n622_9) = some y:=h
       rw [Z5] at h
       refine p8 (eSG (oA 3 rfl ?_))
       obtain ⟨x14,g16,h⟩:=j5 h
       refine a1u (encSl clS) g16 rfl rfl rfl rfl rfl rfl rfl rfl ?_
       refine oB 3 rfl ?_
       refine eI rfl h (fun h=>?_) fun h=>?_
       ·refine o8 ?_
        obtain ⟨y18,g19,h⟩:=j5 h
        refine Y5 [(0,.ptr 0 0),(1,.i k1),(4,.ptr 1 0),(6,.slice .sealed (List.length ([[[124,124]],[[38,38]],[[61,61],[33,61],[60],[60,61],[62],[62,61]],[[43],[45]],[[42],[47],[37]]]:List (List Str))) ((clSl clS) ([[[124,124]],[[38,38]],[[61,61],[33,61],[60],[60,61],[62],[62,61]],[[43],[45]],[[42],[47],[37]]]:List (List Str)))),(7,.ptr 2 0),(9,.i n617),(10,.str y18),(11,.i i619)] [(0,.row [.sl q9 l2,.i L6,.i b6P,.i a8M]),(1,.row [.i 0,.str [],.i 0,.i 0,.str [],.i 0,.st 3 l6 ([]:List Typ),.st 4 l6 ([]:List Typ),.st 5 A9 ([]:List Nod),.i 0]),(2,.row (c0 n622_0 n622_1 n622_2 n622_3 n622_4 n622_5 (.sl l6 n622_6) (.sl l6 n622_7) (.sl A9 n622_8) n622_9)),(3,.tip 0 0),(4,.tip 0 0),(5,.tip 0 0)] rfl ?_ ?_
        ·replace h:=g19
         clear g19
         refine C9 ?_
         refine eSG (oA 3 rfl ?_)
         obtain ⟨x15,g20,h⟩:=j5 h
         refine a1u (encSl clS) g20 rfl rfl rfl rfl rfl rfl rfl rfl ?_
         refine oA 2 rfl ?_
         obtain ⟨x16,g21,h⟩:=j5 h
         refine a1u encS g21 rfl rfl rfl rfl rfl rfl rfl rfl ?_
         refine oA 1 rfl ?_
         obtain ⟨r17,g22,h⟩:=j5 h
         refine oV (M6 g22) ?_
         refine A8 ?_
         refine eI rfl h (fun h=>?_) fun h=>?_
         ·refine o6 (oA 2 rfl ?_)
          obtain ⟨x18,g24,h⟩:=j5 h
          refine a1u (encSl clS) g24 rfl rfl rfl rfl rfl rfl rfl rfl ?_
          refine oA 2 rfl ?_
          obtain ⟨x19,g25,h⟩:=j5 h
          refine a1u encS g25 rfl rfl rfl rfl rfl rfl rfl rfl ?_
          refine oB 2 rfl ?_
          cases h
          exact rfl
         ·refine o8 ?_
          cases h
          exact rfl
        ·obtain ⟨op623,rfl⟩:∃ q,q = y18:=⟨_,rfl⟩
         refine o6 (oB 3 rfl ?_)
         exact ⟨_,_,rfl,ih (_,_,_,_,_,_) _ h⟩
       ·refine M4 ?_
        cases h
        exact rfl
      ·obtain ⟨n630,op631,at632,b2R,n634⟩:=y14
       obtain ⟨n634_0,n634_1,n634_2,⟨n634_3,n634_4,n634_5,n634_6⟩,n634_7,n634_8,n634_9⟩:=n634
       refine p8 (eSG (oB 2 rfl ?_))
       refine eI rfl h (fun h=>?_) fun h=>?_
       ·refine eSG (oB 3 rfl ?_)
        cases h
        exact o5 ⟨_,rfl,_,_,_,rfl,rfl,rfl⟩
       ·refine o8 (eSG (oA 2 rfl ?_))
        obtain ⟨⟨r20,at21⟩,g27,h⟩:=j5 h
        refine oV (u6 g27) ?_
        refine A8 (eSG (oA 3 rfl ?_))
        obtain ⟨⟨r22,r23,at24,c0W⟩,g28,h⟩:=j5 h
        obtain ⟨r22_0,r22_1,r22_2,⟨r22_3,r22_4,r22_5,r22_6⟩,r22_7,r22_8,r22_9⟩:=r22
        refine oV (hΦ.J7 g28) ?_
        refine oB 6 rfl (eSG (oA 6 rfl ?_))
        refine oD ?_
        refine oB 1 rfl (o6 (oB 2 rfl ?_))
        cases h
        exact ⟨_,rfl,rfl⟩
     ·subst hx
      obtain ⟨ok635,n636,at637,b9j,s639,l640,at641⟩:=z29
      refine o6 (oB 3 rfl ?_)
      exact ⟨_,_,rfl,ih (_,_,_,_,_) _ h⟩
     ·subst hz
      rcases res with ⟨_ | _ | _ | _,_,_⟩ <;> first | exact absurd rfl hn | exact hr.elim | (cases h; exact ⟨_,rfl,hr⟩)
    ·refine M4 ?_
     cases h
     exact ⟨_,rfl,rfl⟩
  ·subst hx
   obtain ⟨b33,b36,a6A,n650⟩:=z30
   obtain ⟨n650_0,n650_1,n650_2,⟨n650_3,n650_4,n650_5,n650_6⟩,n650_7,n650_8,n650_9⟩:=n650
   refine eSG (oB 4 rfl ?_)
   cases h
   exact o5 ⟨_,_,_,rfl,rfl,rfl⟩
  ·subst hz
   rcases res with ⟨_ | _ | _ | _,_,_⟩ <;> first | exact absurd rfl hn | exact hr.elim | (cases h; exact hr)
theorem a8D (n:Nat) {Φ:d9} (hΦ:Φ.Ok) {l1:List Tok} {p9:Int} {at3:Int} {j6:Int} {r:Nod × Bool × Int × Int} (h:a2c n Φ l1 p9 at3 j6 = some r) :
  E env (.call 186 [.ptr 0 0]) (hR q9 l1 p9 at3 j6) = some (a5G l1 p9 at3 j6 r):=by
 unfold a2c at h
 refine F4 rfl Tryz.func186 rfl rfl ?_
 refine eSG (oB 2 rfl (eSG (oA 1 rfl ?_)))
 obtain ⟨r5,g1,h⟩:=j5 h
 refine oV (K4 g1) ?_
 refine oB 1 rfl (p8 (eSG (oA 1 rfl ?_)))
 obtain ⟨⟨r6,at7⟩,g2,h⟩:=j5 h
 refine oV (u6 g2) ?_
 refine A8 ?_
 refine eI rfl h (fun h=>?_) fun h=>?_
 ·refine eSG (oA 1 rfl ?_)
  obtain ⟨⟨r8,r9,at10,a2y⟩,g4,h⟩:=j5 h
  obtain ⟨r8_0,r8_1,r8_2,⟨r8_3,r8_4,r8_5,r8_6⟩,r8_7,r8_8,r8_9⟩:=r8
  refine oV (hΦ.M8 g4) ?_
  refine oB 6 rfl (eSG (oA 3 rfl ?_))
  refine oD ?_
  refine oB 3 rfl ?_
  cases h
  exact o5 ⟨_,_,_,rfl,rfl,rfl⟩
 ·refine o8 (p8 (eSG (oA 1 rfl ?_)))
  obtain ⟨⟨r12,at13⟩,g5,h⟩:=j5 h
  refine oV (u6 g5) ?_
  refine A8 ?_
  refine eI rfl h (fun h=>?_) fun h=>?_
  ·refine eSG (oA 1 rfl ?_)
   obtain ⟨⟨r14,r15,at16,b2W⟩,g7,h⟩:=j5 h
   obtain ⟨r14_0,r14_1,r14_2,⟨r14_3,r14_4,r14_5,r14_6⟩,r14_7,r14_8,r14_9⟩:=r14
   refine oV (hΦ.M8 g7) ?_
   refine oB 6 rfl (eSG (oA 3 rfl ?_))
   refine oD ?_
   refine oB 3 rfl ?_
   cases h
   exact o5 ⟨_,_,_,rfl,rfl,rfl⟩
  ·refine o8 (eSG (oA 1 rfl ?_))
   obtain ⟨⟨r18,r19,at20,c0Q⟩,g8,h⟩:=j5 h
   obtain ⟨r18_0,r18_1,r18_2,⟨r18_3,r18_4,r18_5,r18_6⟩,r18_7,r18_8,r18_9⟩:=r18
   refine oV (hΦ.a0P g8) ?_
   refine oB 4 rfl ?_
   cases h
   exact o5 ⟨_,_,_,rfl,rfl,rfl⟩
theorem a7L (n:Nat) {Φ:d9} (hΦ:Φ.Ok) {l1:List Tok} {p9:Int} {at3:Int} {j6:Int} {r:Nod × Bool × Int × Int} (h:a1D n Φ l1 p9 at3 j6 = some r) :
  E env (.call 218 [.ptr 0 0]) (hR q9 l1 p9 at3 j6) = some (a3u l1 p9 at3 j6 r):=by
 unfold a1D at h
 refine F4 rfl Tryz.func218 rfl rfl ?_
 refine eSG (oB 2 rfl (eSG (oA 1 rfl ?_)))
 obtain ⟨⟨r5,r6,at7,a3r⟩,g1,h⟩:=j5 h
 obtain ⟨r5_0,r5_1,r5_2,⟨r5_3,r5_4,r5_5,r5_6⟩,r5_7,r5_8,r5_9⟩:=r5
 refine oV (hΦ.a06 g1) ?_
 refine oB 6 rfl ?_
 obtain ⟨y2,g3,h⟩:=O4 h
 refine Q6 (KR:=fun r=>a2s env 218 1 Tryz.f218.results.toList (a3u l1 p9 at3 j6 r)) y2 (fun z15=>[(2,.ptr 1 0),(4,.ptr 2 0),(5,.bool z15.1)]) (fun z15=>[(0,.row [.sl q9 l1,.i p9,.i z15.2.1,.i z15.2.2.1]),(1,.row [.i 0,.str [],.i 0,.i 0,.str [],.i 0,.st 3 l6 ([]:List Typ),.st 4 l6 ([]:List Typ),.st 5 A9 ([]:List Nod),.i 0]),(2,.row (c0 z15.2.2.2.op z15.2.2.2.s z15.2.2.2.n z15.2.2.2.t.kind z15.2.2.2.t.name z15.2.2.2.t.n (.sl l6 z15.2.2.2.t.args) (.sl l6 z15.2.2.2.ts) (.sl A9 z15.2.2.2.l) z15.2.2.2.at_)),(3,.tip 0 0),(4,.tip 0 0),(5,.tip 0 0)]) rfl ?_ (fun z15 hx=>?_) (fun r res hz hr hn=>?_)
 ·replace h:=g3
  clear g3
  refine C9 ?_
  refine P7 rfl ?_
  revert y2
  refine X8 (fun m (x:Bool × Int × Int × Nod)=>P8 n Φ p9 l1 m x.1 x.2.1 x.2.2.1 x.2.2.2) (fun x=>[(0,.ptr 0 0),(2,.ptr 1 0),(4,.ptr 2 0),(5,.bool x.1)]) (fun x=>[(0,.row [.sl q9 l1,.i p9,.i x.2.1,.i x.2.2.1]),(1,.row [.i 0,.str [],.i 0,.i 0,.str [],.i 0,.st 3 l6 ([]:List Typ),.st 4 l6 ([]:List Typ),.st 5 A9 ([]:List Nod),.i 0]),(2,.row (c0 x.2.2.2.op x.2.2.2.s x.2.2.2.n x.2.2.2.t.kind x.2.2.2.t.name x.2.2.2.t.n (.sl l6 x.2.2.2.t.args) (.sl l6 x.2.2.2.ts) (.sl A9 x.2.2.2.l) x.2.2.2.at_)),(3,.tip 0 0),(4,.tip 0 0),(5,.tip 0 0)]) _ (fun _=>rfl) (fun m2 x y ih h=>?_) n (r6,at7,a3r,(Nod.mk r5_0 r5_1 r5_2 (Typ.mk r5_3 r5_4 r5_5 r5_6) r5_7 r5_8 r5_9))
  obtain ⟨b8k,b6G,a3Q,b0t⟩:=x
  obtain ⟨n536_0,n536_1,n536_2,⟨n536_3,n536_4,n536_5,n536_6⟩,n536_7,n536_8,n536_9⟩:=b0t
  replace h:P8 n Φ p9 l1 (m2 + 1) b8k b6G a3Q (Nod.mk n536_0 n536_1 n536_2 (Typ.mk n536_3 n536_4 n536_5 n536_6) n536_7 n536_8 n536_9) = some y:=h
  rw [P8] at h
  refine p8 (eSG (oB 1 rfl ?_))
  refine eI rfl h (fun h=>?_) fun h=>?_
  ·refine o8 ?_
   refine C9 ?_
   refine eSG (oA 1 rfl ?_)
   obtain ⟨⟨r9,at10⟩,g5,h⟩:=j5 h
   refine oV (u6 g5) ?_
   refine A8 ?_
   refine eI rfl h (fun h=>?_) fun h=>?_
   ·refine eSG (oA 1 rfl ?_)
    obtain ⟨⟨r11,r12,at13⟩,g7,h⟩:=j5 h
    refine oV (I9 g7) ?_
    refine oB 5 rfl (p8 (eSG (oB 2 rfl ?_)))
    refine eI rfl h (fun h=>?_) fun h=>?_
    ·refine eSG (oB 3 rfl ?_)
     cases h
     exact o5 ⟨_,rfl,_,_,_,rfl,rfl,rfl⟩
    ·refine o8 (eSG (oA 1 rfl ?_))
     obtain ⟨r14,g9,h⟩:=j5 h
     refine oV (M6 g9) ?_
     refine A8 ?_
     refine eI rfl h (fun h=>?_) fun h=>?_
     ·refine eSG (oA 3 rfl ?_)
      obtain ⟨⟨r15,r16,at17,a9Z,gone19⟩,g11,h⟩:=j5 h
      refine oV (hΦ.L9 g11) ?_
      refine oB 5 rfl (eSG (oA 4 rfl ?_))
      refine oD ?_
      refine oB 1 rfl (o6 (oB 2 rfl ?_))
      exact ⟨_,_,rfl,ih (_,_,_,_) _ h⟩
     ·refine o6 (oA 5 rfl ?_)
      refine oD ?_
      refine oB 1 rfl ?_
      exact ⟨_,_,rfl,ih (_,_,_,_) _ h⟩
   ·refine eSG (oA 1 rfl ?_)
    obtain ⟨r20,g12,h⟩:=j5 h
    refine oV (M6 g12) ?_
    refine A8 ?_
    refine eI rfl h (fun h=>?_) fun h=>?_
    ·refine eSG (oA 3 rfl ?_)
     obtain ⟨⟨r21,r22,at23,c0D,gone25⟩,g14,h⟩:=j5 h
     refine oV (hΦ.L9 g14) ?_
     refine oB 5 rfl (eSG (oA 3 rfl ?_))
     refine oD ?_
     refine oB 1 rfl (o6 (oB 2 rfl ?_))
     exact ⟨_,_,rfl,ih (_,_,_,_) _ h⟩
    ·refine eSG (oB 3 rfl ?_)
     cases h
     exact o5 ⟨_,rfl,_,_,_,rfl,rfl,rfl⟩
  ·refine M4 ?_
   cases h
   exact ⟨_,rfl,rfl⟩
 ·subst hx
  obtain ⟨b5Y,b4a,a5u,n555⟩:=z15
  obtain ⟨n555_0,n555_1,n555_2,⟨n555_3,n555_4,n555_5,n555_6⟩,n555_7,n555_8,n555_9⟩:=n555
  refine eSG (oB 4 rfl ?_)
  cases h
  exact o5 ⟨_,_,_,rfl,rfl,rfl⟩
 ·subst hz
  rcases res with ⟨_ | _ | _ | _,_,_⟩ <;> first | exact absurd rfl hn | exact hr.elim | (cases h; exact hr)
theorem a9V (n:Nat) {Φ:d9} (hΦ:Φ.Ok) {l1:List Tok} {p9:Int} {at3:Int} {j6:Int} {r:Nod × Bool × Int × Int} (h:a01 n Φ l1 p9 at3 j6 = some r) :
  E env (.call 236 [.ptr 0 0]) (hR q9 l1 p9 at3 j6) = some (a2W l1 p9 at3 j6 r):=by
 unfold a01 at h
 refine F4 rfl Tryz.func236 rfl rfl ?_
 refine eSG (oB 2 rfl (eSG (oA 1 rfl ?_)))
 obtain ⟨r5,g1,h⟩:=j5 h
 refine oV (K4 g1) ?_
 refine oD ?_
 refine oB 2 rfl (p8 (eSG (oA 1 rfl ?_)))
 obtain ⟨⟨r6,r7,at8⟩,g2,h⟩:=j5 h
 refine oV (I9 g2) ?_
 refine oB 5 rfl (eSG (oB 1 rfl ?_))
 refine eI rfl h (fun h=>?_) fun h=>?_
 ·refine eSG (oA 1 rfl ?_)
  obtain ⟨r9,g4,h⟩:=j5 h
  refine F7 rfl rfl rfl rfl rfl (a6L g4) rfl ?_
  refine oB 4 rfl (eSG (oB 3 rfl ?_))
  cases h
  exact o5 ⟨_,_,_,rfl,rfl,rfl⟩
 ·refine o8 (p8 (eSG (oA 1 rfl ?_)))
  obtain ⟨⟨r10,r11,at12⟩,g5,h⟩:=j5 h
  refine oV (I9 g5) ?_
  refine oB 5 rfl (eSG (oB 1 rfl ?_))
  refine eI rfl h (fun h=>?_) fun h=>?_
  ·refine eSG (oB 5 rfl (eSG (oB 3 rfl ?_)))
   cases h
   exact o5 ⟨_,_,_,rfl,rfl,rfl⟩
  ·refine o8 (p8 (eSG (oA 1 rfl ?_)))
   obtain ⟨r13,g7,h⟩:=j5 h
   refine oV (a2z g7) ?_
   refine A8 ?_
   refine eI rfl h (fun h=>?_) fun h=>?_
   ·refine eSG (oA 1 rfl ?_)
    obtain ⟨⟨r14,r15,at16,b2W⟩,g9,h⟩:=j5 h
    obtain ⟨r14_0,r14_1,r14_2,⟨r14_3,r14_4,r14_5,r14_6⟩,r14_7,r14_8,r14_9⟩:=r14
    refine oV (hΦ.Y1 g9) ?_
    refine oB 4 rfl ?_
    cases h
    exact o5 ⟨_,_,_,rfl,rfl,rfl⟩
   ·refine o8 (p8 (eSG (oA 1 rfl ?_)))
    obtain ⟨⟨r18,at19⟩,g10,h⟩:=j5 h
    refine oV (I6 g10) ?_
    refine A8 ?_
    refine eI rfl h (fun h=>?_) fun h=>?_
    ·refine eSG (oB 4 rfl (eSG (oB 3 rfl ?_)))
     cases h
     exact o5 ⟨_,_,_,rfl,rfl,rfl⟩
    ·refine o8 (p8 (eSG (oA 1 rfl ?_)))
     obtain ⟨⟨r20,at21⟩,g12,h⟩:=j5 h
     refine oV (I6 g12) ?_
     refine A8 ?_
     refine eI rfl h (fun h=>?_) fun h=>?_
     ·refine eSG (oB 2 rfl (eSG (oB 3 rfl ?_)))
      cases h
      exact o5 ⟨_,_,_,rfl,rfl,rfl⟩
     ·refine o8 (p8 (eSG (oA 1 rfl ?_)))
      obtain ⟨⟨r22,r23,at24⟩,g14,h⟩:=j5 h
      refine oV (I9 g14) ?_
      refine oB 5 rfl (eSG (oB 1 rfl ?_))
      refine eI rfl h (fun h=>?_) fun h=>?_
      ·refine eSG (oB 5 rfl (p8 (eSG (oA 1 rfl ?_))))
       obtain ⟨r25,g16,h⟩:=j5 h
       refine oV (M6 g16) ?_
       refine A8 ?_
       refine eI rfl h (fun h=>?_) fun h=>?_
       ·refine eSG (oA 1 rfl ?_)
        obtain ⟨⟨r26,r27,at28,b4I,gone30⟩,g18,h⟩:=j5 h
        refine oV (hΦ.L9 g18) ?_
        refine oB 5 rfl (eSG (oB 5 rfl (eSG (oB 4 rfl ?_))))
        cases h
        exact o5 ⟨_,_,_,rfl,rfl,rfl⟩
       ·refine o8 (eSG (oB 3 rfl ?_))
        cases h
        exact o5 ⟨_,_,_,rfl,rfl,rfl⟩
      ·refine o8 (p8 (eSG (oA 1 rfl ?_)))
       obtain ⟨⟨r31,at32⟩,g19,h⟩:=j5 h
       refine oV (I6 g19) ?_
       refine A8 ?_
       refine eI rfl h (fun h=>?_) fun h=>?_
       ·refine eSG (oA 1 rfl ?_)
        obtain ⟨⟨r33,r34,at35⟩,g21,h⟩:=j5 h
        refine oV (I9 g21) ?_
        refine oB 5 rfl (eSG (oB 5 rfl (eSG (oB 4 rfl ?_))))
        cases h
        exact o5 ⟨_,_,_,rfl,rfl,rfl⟩
       ·refine o8 ?_
        obtain ⟨y22,g23,h⟩:=O4 h
        refine Q6 (KR:=fun r=>a2s env 236 1 Tryz.f236.results.toList (a2W l1 p9 at3 j6 r)) y22 (fun z46=>[(0,.ptr 0 0),(2,.ptr 1 0)]) (fun z46=>[(0,.row [.sl q9 l1,.i p9,.i z46,.i j6]),(1,.row [.i 0,.str [],.i 0,.i 0,.str [],.i 0,.st 2 l6 ([]:List Typ),.st 3 l6 ([]:List Typ),.st 4 A9 ([]:List Nod),.i 0]),(2,.tip 0 0),(3,.tip 0 0),(4,.tip 0 0)]) rfl ?_ (fun z46 hx=>?_) (fun r res hz hr hn=>?_)
        ·replace h:=g23
         clear g23
         refine eSG (oA 1 rfl ?_)
         obtain ⟨⟨r36,at37⟩,g24,h⟩:=j5 h
         refine oV (u6 g24) ?_
         refine A8 ?_
         refine eI rfl h (fun h=>?_) fun h=>?_
         ·refine eSG (oB 2 rfl (p8 (eSG (oA 1 rfl ?_))))
          obtain ⟨⟨r38,at39⟩,g26,h⟩:=j5 h
          refine oV (u6 g26) ?_
          refine A8 ?_
          refine eI rfl h (fun h=>?_) fun h=>?_
          ·refine eSG (oB 3 rfl ?_)
           cases h
           exact o5 ⟨_,rfl,_,_,_,rfl,rfl,rfl⟩
          ·refine o8 ?_
           obtain ⟨y28,g29,h⟩:=a3W h
           refine Q6 (KR:=fun r=>a2s env 236 1 Tryz.f236.results.toList (a2W l1 p9 at3 j6 r)) y28 (fun z36=>[(0,.ptr 0 0),(2,.ptr 1 0),(4,.ptr 2 0)]) (fun z36=>[(0,.row [.sl q9 l1,.i p9,.i z36.1,.i z36.2.1]),(1,.row [.i 0,.str [],.i 0,.i 0,.str [],.i 0,.st 3 l6 ([]:List Typ),.st 4 l6 ([]:List Typ),.st 5 A9 ([]:List Nod),.i 0]),(2,.row [.i 67,.str [],.i 0,.i 0,.str [],.i 0,.st 6 l6 ([]:List Typ),.st 7 l6 ([]:List Typ),.st 8 A9 z36.2.2,.i r5]),(3,.tip 0 0),(4,.tip 0 0),(5,.tip 0 0),(6,.tip 0 0),(7,.tip 0 0),(8,.tip (tpe 10 (List.length z36.2.2)) (List.length z36.2.2))]) rfl ?_ (fun z36 hx=>?_) (fun r res hz hr hn=>?_)
           ·replace h:=g29
            clear g29
            refine eSG (oB 1 rfl ?_)
            refine C9 ?_
            refine P7 rfl ?_
            revert y28
            refine X8 (fun m (x:Bool × Int × Int × List Nod)=>Z9 n Φ p9 l1 r5 m x.1 x.2.1 x.2.2.1 x.2.2.2) (fun x=>[(0,.ptr 0 0),(2,.ptr 1 0),(4,.ptr 2 0),(15,.bool x.1)]) (fun x=>[(0,.row [.sl q9 l1,.i p9,.i x.2.1,.i x.2.2.1]),(1,.row [.i 0,.str [],.i 0,.i 0,.str [],.i 0,.st 3 l6 ([]:List Typ),.st 4 l6 ([]:List Typ),.st 5 A9 ([]:List Nod),.i 0]),(2,.row [.i 67,.str [],.i 0,.i 0,.str [],.i 0,.st 6 l6 ([]:List Typ),.st 7 l6 ([]:List Typ),.st 8 A9 x.2.2.2,.i r5]),(3,.tip 0 0),(4,.tip 0 0),(5,.tip 0 0),(6,.tip 0 0),(7,.tip 0 0),(8,.tip (tpe 10 (List.length x.2.2.2)) (List.length x.2.2.2))]) _ (fun _=>rfl) (fun m35 x y ih h=>?_) n (true,at39,j6,([]:List Nod))
            obtain ⟨c0I,at542,b4T,l544⟩:=x
            rw [Z9] at h
            refine p8 (eSG (oB 1 rfl ?_))
            refine eI rfl h (fun h=>?_) fun h=>?_
            ·refine o8 ?_
             refine C9 ?_
             refine eSG (oA 1 rfl ?_)
             obtain ⟨⟨r40,r41,at42,b4x⟩,g31,h⟩:=j5 h
             obtain ⟨r40_0,r40_1,r40_2,⟨r40_3,r40_4,r40_5,r40_6⟩,r40_7,r40_8,r40_9⟩:=r40
             refine oV (hΦ.E5 g31) ?_
             refine oB 6 rfl (p8 (eSG (oB 2 rfl ?_)))
             refine eI rfl h (fun h=>?_) fun h=>?_
             ·refine eSG (oB 3 rfl ?_)
              cases h
              exact o5 ⟨_,rfl,_,_,_,rfl,rfl,rfl⟩
             ·refine o8 (eSG (oA 4 rfl ?_))
              obtain ⟨l44,g33,h⟩:=j5 h
              refine oP Z7 g33 ?_
              refine oB 1 rfl (eSG (oB 3 rfl (o6 (oA 1 rfl ?_))))
              obtain ⟨⟨r45,at46⟩,g34,h⟩:=j5 h
              refine oV (u6 g34) ?_
              refine oB 1 rfl ?_
              exact ⟨_,_,rfl,ih (_,_,_,_) _ h⟩
            ·refine M4 ?_
             cases h
             exact ⟨_,rfl,rfl⟩
           ·subst hx
            obtain ⟨at560,b5N,l562⟩:=z36
            refine eSG (oA 1 rfl ?_)
            obtain ⟨⟨r47,at48⟩,g35,h⟩:=j5 h
            refine oV (u6 g35) ?_
            refine oB 1 rfl (eSG (oB 4 rfl ?_))
            cases h
            exact o5 ⟨_,rfl,_,_,_,rfl,rfl,rfl⟩
           ·subst hz
            rcases res with ⟨_ | _ | _ | _,_,_⟩ <;> first | exact absurd rfl hn | exact hr.elim | (cases h; exact ⟨_,rfl,hr⟩)
         ·refine o8 ?_
          cases h
          exact ⟨_,rfl,rfl⟩
        ·subst hx
         obtain ⟨a7y,rfl⟩:∃ q,q = z46:=⟨_,rfl⟩
         refine p8 (eSG (oA 1 rfl ?_))
         obtain ⟨⟨r49,at50⟩,g37,h⟩:=j5 h
         refine oV (u6 g37) ?_
         refine A8 ?_
         refine eI rfl h (fun h=>?_) fun h=>?_
         ·refine eSG (oA 1 rfl ?_)
          obtain ⟨⟨r51,r52,at53,b4w⟩,g39,h⟩:=j5 h
          obtain ⟨r51_0,r51_1,r51_2,⟨r51_3,r51_4,r51_5,r51_6⟩,r51_7,r51_8,r51_9⟩:=r51
          refine oV (hΦ.E5 g39) ?_
          refine oB 6 rfl (p8 ?_)
          refine O9 [1344] rfl ?_
          refine oC rfl rfl (oC rfl rfl (oC rfl rfl ?_))
          rcases Bool.eq_false_or_eq_true r52 with g40 | g40
          ·replace h:=U3 h g40
           refine H8 rfl ?_
           refine D7 (congrArg some g40) rfl rfl ?_
           refine A8 (H8 rfl ?_)
           obtain ⟨⟨r55,at56⟩,g41,h⟩:=j5 h
           refine a7b (congrArg some g40) rfl rfl (a4W rfl rfl (u6 g41) rfl rfl rfl) ?_
           refine A8 (H8 rfl ?_)
           refine b26 rfl rfl rfl g40 rfl ?_
           refine A8 (oC rfl rfl (oC rfl rfl ?_))
           refine Y0 ?_
           refine ⟨rfl,?_⟩
           cases h
           exact o5 ⟨_,_,_,rfl,rfl,rfl⟩
          ·replace h:=U4 h g40
           refine a5q (congrArg some g40) ?_
           refine a5q (congrArg some g40) ?_
           refine H8 rfl ?_
           refine b2O rfl rfl rfl g40 rfl ?_
           refine A8 (oC rfl rfl (oC rfl rfl ?_))
           refine Y0 ?_
           refine ⟨rfl,?_⟩
           cases h
           exact o5 ⟨_,_,_,rfl,rfl,rfl⟩
         ·refine o8 (p8 (eSG (oA 1 rfl ?_)))
          obtain ⟨r57,g42,h⟩:=j5 h
          refine oV (M6 g42) ?_
          refine A8 ?_
          refine eI rfl h (fun h=>?_) fun h=>?_
          ·refine eSG (oA 1 rfl ?_)
           obtain ⟨⟨r58,r59,at60,c0h⟩,g44,h⟩:=j5 h
           obtain ⟨r58_0,r58_1,r58_2,⟨r58_3,r58_4,r58_5,r58_6⟩,r58_7,r58_8,r58_9⟩:=r58
           refine oV (hΦ.a0T g44) ?_
           refine oB 4 rfl ?_
           cases h
           exact o5 ⟨_,_,_,rfl,rfl,rfl⟩
          ·refine o8 (eSG (oA 1 rfl ?_))
           obtain ⟨⟨r62,r63,at64,b2T⟩,g45,h⟩:=j5 h
           obtain ⟨r62_0,r62_1,r62_2,⟨r62_3,r62_4,r62_5,r62_6⟩,r62_7,r62_8,r62_9⟩:=r62
           refine oV (hΦ.a1G g45) ?_
           refine oB 4 rfl ?_
           cases h
           exact o5 ⟨_,_,_,rfl,rfl,rfl⟩
        ·subst hz
         rcases res with ⟨_ | _ | _ | _,_,_⟩ <;> first | exact absurd rfl hn | exact hr.elim | (cases h; exact hr)
theorem a9L (n:Nat) {Φ:d9} (hΦ:Φ.Ok) {l1:List Nod} {l2:List Tok} {L6:Int} {at4:Int} {G7:Int} {r:List Nod × Bool × Int × Int × List Nod} (h:a2u n Φ l1 l2 L6 at4 G7 = some r) :
  E env (.call 237 [.ptr 0 0,.st 1 A9 l1]) [(0,.row [.sl q9 l2,.i L6,.i at4,.i G7]),(1,.tip (tpe 10 (List.length l1)) (List.length l1))] = some (a4e l1 l2 L6 at4 G7 r):=by
 unfold a2u at h
 refine F4 rfl Tryz.func237 rfl rfl ?_
 refine eSG (oB 2 rfl (p8 (eSG (oA 1 rfl ?_))))
 obtain ⟨⟨r6,at7⟩,g1,h⟩:=j5 h
 refine oV (u6 g1) ?_
 refine oB 1 rfl ?_
 refine eI rfl h (fun h=>?_) fun h=>?_
 ·refine eSG (oB 3 rfl ?_)
  cases h
  exact o5 ⟨_,_,_,rfl,rfl,rfl⟩
 ·refine o8 (p8 (eSG (oA 1 rfl ?_)))
  obtain ⟨⟨r8,at9⟩,g3,h⟩:=j5 h
  refine oV (u6 g3) ?_
  refine A8 ?_
  refine eI rfl h (fun h=>?_) fun h=>?_
  ·refine eSG (oB 3 rfl ?_)
   cases h
   exact o5 ⟨_,_,_,rfl,rfl,rfl⟩
  ·refine o8 ?_
   obtain ⟨y5,g6,h⟩:=O4 h
   refine Q6 (KR:=fun r=>a2s env 237 2 Tryz.f237.results.toList (a4e l1 l2 L6 at4 G7 r)) y5 (fun z19=>[(0,.ptr 0 0),(1,.st 1 A9 z19.1)]) (fun z19=>[(0,.row [.sl q9 l2,.i L6,.i z19.2.1,.i z19.2.2]),(1,.tip (tpe 10 (List.length z19.1)) (List.length z19.1))]) rfl ?_ (fun z19 hx=>?_) (fun r res hz hr hn=>?_)
   ·replace h:=g6
    clear g6
    refine eSG (oB 1 rfl ?_)
    refine C9 ?_
    refine P7 rfl ?_
    revert y5
    refine X8 (fun m (x:List Nod × Bool × Int × Int)=>a0o n Φ L6 l2 m x.1 x.2.1 x.2.2.1 x.2.2.2) (fun x=>[(0,.ptr 0 0),(1,.st 1 A9 x.1),(6,.bool x.2.1)]) (fun x=>[(0,.row [.sl q9 l2,.i L6,.i x.2.2.1,.i x.2.2.2]),(1,.tip (tpe 10 (List.length x.1)) (List.length x.1))]) _ (fun _=>rfl) (fun m6 x y ih h=>?_) n (l1,true,at9,G7)
    obtain ⟨l537,c0p,b5t,a4n⟩:=x
    rw [a0o] at h
    refine p8 (eSG (oB 1 rfl ?_))
    refine eI rfl h (fun h=>?_) fun h=>?_
    ·refine o8 ?_
     refine C9 ?_
     refine eSG (oA 1 rfl ?_)
     obtain ⟨r10,g8,h⟩:=j5 h
     refine oV (K4 g8) ?_
     refine oB 1 rfl (eSG (oB 1 rfl (eSG (oB 1 rfl ?_))))
     obtain ⟨y9,g10,h⟩:=j5 h
     refine Y5 [(0,.ptr 0 0),(1,.st 1 A9 l537),(8,.ptr 2 0),(9,.bool y9.1)] [(0,.row [.sl q9 l2,.i L6,.i y9.2.1,.i y9.2.2.1]),(1,.tip (tpe 10 (List.length l537)) (List.length l537)),(2,.row (c0 y9.2.2.2.op y9.2.2.2.s y9.2.2.2.n y9.2.2.2.t.kind y9.2.2.2.t.name y9.2.2.2.t.n (.sl l6 y9.2.2.2.t.args) (.sl l6 y9.2.2.2.ts) (.sl A9 y9.2.2.2.l) y9.2.2.2.at_))] rfl ?_ ?_
     ·replace h:=g10
      clear g10
      refine eSG (oA 1 rfl ?_)
      obtain ⟨⟨r11,at12⟩,g11,h⟩:=j5 h
      refine oV (u6 g11) ?_
      refine A8 ?_
      refine eI rfl h (fun h=>?_) fun h=>?_
      ·refine eSG (oA 1 rfl ?_)
       obtain ⟨⟨r13,r14,at15⟩,g13,h⟩:=j5 h
       obtain ⟨r13_0,r13_1,r13_2,⟨r13_3,r13_4,r13_5,r13_6⟩,r13_7,r13_8,r13_9⟩:=r13
       refine oV (b0F g13) ?_
       refine oB 5 rfl (o6 (oA 3 rfl ?_))
       refine oD ?_
       refine oB 1 rfl ?_
       cases h
       exact rfl
      ·refine o6 (oA 1 rfl ?_)
       obtain ⟨⟨r16,r17,at18,b1d⟩,g14,h⟩:=j5 h
       obtain ⟨r16_0,r16_1,r16_2,⟨r16_3,r16_4,r16_5,r16_6⟩,r16_7,r16_8,r16_9⟩:=r16
       refine oV (hΦ.E5 g14) ?_
       refine oB 5 rfl ?_
       cases h
       exact rfl
     ·obtain ⟨b5Y,b4a,a5u,n555⟩:=y9
      obtain ⟨n555_0,n555_1,n555_2,⟨n555_3,n555_4,n555_5,n555_6⟩,n555_7,n555_8,n555_9⟩:=n555
      refine p8 (eSG (oB 2 rfl ?_))
      refine eI rfl h (fun h=>?_) fun h=>?_
      ·refine eSG (oB 3 rfl ?_)
       cases h
       exact o5 ⟨_,rfl,_,_,_,rfl,rfl,rfl⟩
      ·refine o8 (eSG (oA 3 rfl ?_))
       obtain ⟨l20,g16,h⟩:=j5 h
       refine oP Z7 g16 ?_
       refine oB 1 rfl (o6 (oA 1 rfl ?_))
       obtain ⟨⟨r21,at22⟩,g17,h⟩:=j5 h
       refine oV (u6 g17) ?_
       refine oB 1 rfl ?_
       exact ⟨_,_,rfl,ih (_,_,_,_) _ h⟩
    ·refine M4 ?_
     cases h
     exact ⟨_,rfl,rfl⟩
   ·subst hx
    obtain ⟨l560,at561,b5E⟩:=z19
    refine eSG (oA 1 rfl ?_)
    obtain ⟨⟨r23,at24⟩,g18,h⟩:=j5 h
    refine oV (u6 g18) ?_
    refine oB 1 rfl (eSG (oB 4 rfl ?_))
    cases h
    exact o5 ⟨_,_,_,rfl,rfl,rfl⟩
   ·subst hz
    rcases res with ⟨_ | _ | _ | _,_,_⟩ <;> first | exact absurd rfl hn | exact hr.elim | (cases h; exact hr)
theorem a6c (n:Nat) {Φ:d9} (hΦ:Φ.Ok) {l1:List Tok} {p9:Int} {at3:Int} {j6:Int} {r:Nod × Bool × Int × Int} (h:a0D n Φ l1 p9 at3 j6 = some r) :
  E env (.call 259 [.ptr 0 0]) (hR q9 l1 p9 at3 j6) = some (a3H l1 p9 at3 j6 r):=by
 unfold a0D at h
 refine F4 rfl Tryz.func259 rfl rfl ?_
 refine eSG (oB 2 rfl (eSG (oA 1 rfl ?_)))
 obtain ⟨r5,g1,h⟩:=j5 h
 refine oV (K4 g1) ?_
 refine oD ?_
 refine oB 2 rfl ?_
 refine C9 ?_
 refine P7 rfl ?_
 obtain ⟨yq,hq⟩:∃ y,y = r:=⟨_,rfl⟩
 rw [<- hq] at h ⊢
 clear hq
 revert yq
 refine X8 (fun m (x:Int × Int × List Nod)=>U7 n Φ p9 l1 r5 m x.1 x.2.1 x.2.2) (fun x=>[(0,.ptr 0 0),(2,.ptr 1 0),(4,.ptr 2 0)]) (fun x=>[(0,.row [.sl q9 l1,.i p9,.i x.1,.i x.2.1]),(1,.row [.i 0,.str [],.i 0,.i 0,.str [],.i 0,.st 3 l6 ([]:List Typ),.st 4 l6 ([]:List Typ),.st 5 A9 ([]:List Nod),.i 0]),(2,.row [.i 53,.str [],.i 0,.i 0,.str [],.i 0,.st 6 l6 ([]:List Typ),.st 7 l6 ([]:List Typ),.st 8 A9 x.2.2,.i r5]),(3,.tip 0 0),(4,.tip 0 0),(5,.tip 0 0),(6,.tip 0 0),(7,.tip 0 0),(8,.tip (tpe 10 (List.length x.2.2)) (List.length x.2.2))]) _ (fun _=>rfl) (fun m2 x y ih h=>?_) n (at3,j6,([]:List Nod))
 obtain ⟨at521,b5u,l523⟩:=x
 rw [U7] at h
 refine C9 ?_
 refine p8 ?_
 refine O9 [0,0] rfl ?_
 refine oC rfl rfl (oC rfl rfl (oC rfl rfl (oC rfl rfl (oC rfl rfl (oC rfl rfl (oC rfl rfl (oC rfl rfl (H8 rfl ?_))))))))
 obtain ⟨x6,g2,h⟩:=j5 h
 refine a1u a5x g2 rfl rfl rfl rfl rfl rfl rfl rfl ?_
 refine A8 (H8 rfl ?_)
 refine a4m (c:=[.i x6.kind,.str x6.text,.i x6.at_,.i x6.len]) rfl rfl rfl rfl rfl rfl rfl ?_
 refine A8 (oC rfl rfl (oC rfl rfl ?_))
 refine Y0 ?_
 refine ⟨rfl,?_⟩
 refine eSG (oB 8 rfl (eSG (oA 6 rfl ?_)))
 refine oD ?_
 refine oA 1 rfl ?_
 obtain ⟨l7,g3,h⟩:=j5 h
 refine oP Z7 g3 ?_
 refine oB 1 rfl (eSG (oB 3 rfl (p8 (eSG (oB 3 rfl ?_)))))
 refine eI rfl h (fun h=>?_) fun h=>?_
 ·refine eSG (oB 3 rfl ?_)
  cases h
  exact o5 ⟨_,_,_,rfl,rfl,rfl⟩
 ·refine o8 (eSG (oA 1 rfl ?_))
  obtain ⟨⟨r8,r9,at10,a2y⟩,g5,h⟩:=j5 h
  obtain ⟨r8_0,r8_1,r8_2,⟨r8_3,r8_4,r8_5,r8_6⟩,r8_7,r8_8,r8_9⟩:=r8
  refine oV (hΦ.E5 g5) ?_
  refine oB 6 rfl (p8 ?_)
  obtain ⟨y6,g7,h⟩:=j5 h
  refine Y5 [(0,.ptr 0 0),(2,.ptr 1 0),(4,.ptr 2 0),(7,.ptr 3 0),(61,.bool y6)] [(0,.row [.sl q9 l1,.i p9,.i at10,.i a2y]),(1,.row [.i 0,.str [],.i 0,.i 0,.str [],.i 0,.st 4 l6 ([]:List Typ),.st 5 l6 ([]:List Typ),.st 6 A9 ([]:List Nod),.i 0]),(2,.row [.i 53,.str [],.i 0,.i 0,.str [],.i 0,.st 7 l6 ([]:List Typ),.st 8 l6 ([]:List Typ),.st 9 A9 l7,.i r5]),(3,.row (c0 r8_0 r8_1 r8_2 r8_3 r8_4 r8_5 (.sl l6 r8_6) (.sl l6 r8_7) (.sl A9 r8_8) r8_9)),(4,.tip 0 0),(5,.tip 0 0),(6,.tip 0 0),(7,.tip 0 0),(8,.tip 0 0),(9,.tip (tpe 10 (List.length l7)) (List.length l7))] rfl ?_ ?_
  ·replace h:=g7
   clear g7
   refine o6 (oA 3 rfl ?_)
   refine D5 rfl rfl rfl (fun g8=>?_) (fun g8=>?_)
   ·replace h:=U3 h g8
    refine oB 9 rfl ?_
    cases h
    exact rfl
   ·replace h:=U4 h g8
    refine oA 1 rfl ?_
    obtain ⟨r12,g9,h⟩:=j5 h
    refine oV (a2z g9) ?_
    refine oA 2 rfl ?_
    refine D5 rfl rfl rfl (fun g10=>?_) (fun g10=>?_)
    ·replace h:=U3 h g10
     refine oA 1 rfl ?_
     obtain ⟨r13,g11,h⟩:=j5 h
     refine oV (a2z g11) ?_
     refine oB 3 rfl ?_
     cases h
     exact rfl
    ·replace h:=U4 h g10
     refine oB 5 rfl ?_
     cases h
     exact rfl
  ·obtain ⟨x520,rfl⟩:∃ q,q = y6:=⟨_,rfl⟩
   refine eI rfl h (fun h=>?_) fun h=>?_
   ·refine eSG (oB 3 rfl ?_)
    cases h
    exact o5 ⟨_,_,_,rfl,rfl,rfl⟩
   ·refine o8 (eSG (oA 4 rfl ?_))
    obtain ⟨l14,g13,h⟩:=j5 h
    refine oP Z7 g13 ?_
    refine oB 1 rfl (o6 (oB 3 rfl ?_))
    exact ⟨_,_,rfl,ih (_,_,_) _ h⟩
theorem a7N (n:Nat) {Φ:d9} (hΦ:Φ.Ok) {l1:List Tok} {p9:Int} {at3:Int} {j6:Int} {r:Nod × Bool × Int × Int} (h:a1r n Φ l1 p9 at3 j6 = some r) :
  E env (.call 260 [.ptr 0 0]) (hR q9 l1 p9 at3 j6) = some (a3t l1 p9 at3 j6 r):=by
 unfold a1r at h
 refine F4 rfl Tryz.func260 rfl rfl ?_
 refine eSG (oB 2 rfl (eSG (oA 1 rfl ?_)))
 obtain ⟨r5,g1,h⟩:=j5 h
 refine oV (K4 g1) ?_
 refine oB 1 rfl (eSG (oA 1 rfl ?_))
 refine oD ?_
 refine oD ?_
 refine oB 2 rfl (eSG (oA 1 rfl ?_))
 obtain ⟨⟨r6,at7⟩,g2,h⟩:=j5 h
 refine oV (u6 g2) ?_
 refine A8 (p8 (eSG (oA 1 rfl ?_)))
 obtain ⟨⟨r8,at9⟩,g3,h⟩:=j5 h
 refine oV (u6 g3) ?_
 refine oB 1 rfl ?_
 refine eI rfl h (fun h=>?_) fun h=>?_
 ·refine eSG (oB 3 rfl ?_)
  cases h
  exact o5 ⟨_,_,_,rfl,rfl,rfl⟩
 ·refine o8 (eSG (oA 1 rfl ?_))
  obtain ⟨⟨r10,r11,at12⟩,g5,h⟩:=j5 h
  refine oV (a9R g5) ?_
  refine oB 5 rfl (p8 (eSG (oB 2 rfl ?_)))
  refine eI rfl h (fun h=>?_) fun h=>?_
  ·refine eSG (oB 3 rfl ?_)
   cases h
   exact o5 ⟨_,_,_,rfl,rfl,rfl⟩
  ·refine o8 ?_
   obtain ⟨y7,g8,h⟩:=O4 h
   refine Q6 (KR:=fun r=>a2s env 260 1 Tryz.f260.results.toList (a3t l1 p9 at3 j6 r)) y7 (fun z17=>[(0,.ptr 0 0),(2,.ptr 1 0),(4,.i r5),(5,.ptr 2 0),(6,.st 3 A9 r10)]) (fun z17=>[(0,.row [.sl q9 l1,.i p9,.i z17.1,.i j6]),(1,.row [.i 0,.str [],.i 0,.i 0,.str [],.i 0,.st 4 l6 ([]:List Typ),.st 5 l6 ([]:List Typ),.st 6 A9 ([]:List Nod),.i 0]),(2,.row [.i 63,.str [],.i 0,.i z17.2.1,.str z17.2.2.1,.i z17.2.2.2.1,.sl l6 z17.2.2.2.2,.st 7 l6 ([]:List Typ),.st 8 A9 ([]:List Nod),.i r5]),(3,.tip (tpe 10 (List.length r10)) (List.length r10)),(4,.tip 0 0),(5,.tip 0 0),(6,.tip 0 0),(7,.tip 0 0),(8,.tip 0 0)]) rfl ?_ (fun z17 hx=>?_) (fun r res hz hr hn=>?_)
   ·replace h:=g8
    clear g8
    refine eSG (oA 1 rfl ?_)
    obtain ⟨⟨r13,at14⟩,g9,h⟩:=j5 h
    refine oV (u6 g9) ?_
    refine A8 ?_
    refine eI rfl h (fun h=>?_) fun h=>?_
    ·refine eSG (oA 1 rfl ?_)
     obtain ⟨⟨r15,r16,at17⟩,g11,h⟩:=j5 h
     obtain ⟨r15_0,r15_1,r15_2,r15_3⟩:=r15
     refine oV (a4E g11) ?_
     refine oB 6 rfl (p8 (eSG (oB 2 rfl ?_)))
     refine eI rfl h (fun h=>?_) fun h=>?_
     ·refine eSG (oB 3 rfl ?_)
      cases h
      exact o5 ⟨_,rfl,_,_,_,rfl,rfl,rfl⟩
     ·refine o8 (o6 (oB 3 rfl ?_))
      cases h
      exact ⟨_,rfl,rfl⟩
    ·refine o8 ?_
     cases h
     exact ⟨_,rfl,rfl⟩
   ·subst hx
    obtain ⟨b49,b7s,b7J,n513,b7w⟩:=z17
    refine p8 (eSG (oA 1 rfl ?_))
    obtain ⟨⟨r18,at19⟩,g13,h⟩:=j5 h
    refine oV (I6 g13) ?_
    refine oB 1 rfl ?_
    refine eI rfl h (fun h=>?_) fun h=>?_
    ·refine eSG (oB 3 rfl ?_)
     cases h
     exact o5 ⟨_,_,_,rfl,rfl,rfl⟩
    ·refine o8 (eSG (oA 1 rfl ?_))
     obtain ⟨⟨r20,r21,at22,b1e⟩,g15,h⟩:=j5 h
     refine oV (hΦ.S9 g15) ?_
     refine oB 5 rfl (eSG (oA 3 rfl ?_))
     refine oD ?_
     refine oA 1 rfl ?_
     obtain ⟨l24,g16,h⟩:=j5 h
     refine oP Z7 g16 ?_
     refine oB 2 rfl (eSG (oB 4 rfl ?_))
     cases h
     exact o5 ⟨_,_,_,rfl,rfl,rfl⟩
   ·subst hz
    rcases res with ⟨_ | _ | _ | _,_,_⟩ <;> first | exact absurd rfl hn | exact hr.elim | (cases h; exact hr)
theorem a6I (n:Nat) {Φ:d9} (hΦ:Φ.Ok) {l1:List Tok} {p9:Int} {at3:Int} {j6:Int} {r:List Nod × Bool × Int × Int} (h:a0Y n Φ l1 p9 at3 j6 = some r) :
  E env (.call 214 [.ptr 0 0]) (hR q9 l1 p9 at3 j6) = some (a2E l1 p9 at3 j6 r):=by
 unfold a0Y at h
 refine F4 rfl Tryz.func214 rfl rfl ?_
 refine eSG (oB 2 rfl (eSG (oB 1 rfl ?_)))
 obtain ⟨y1,g2,h⟩:=O4 h
 refine Q6 (KR:=fun r=>a2s env 214 1 Tryz.f214.results.toList (a2E l1 p9 at3 j6 r)) y1 (fun z8=>[(4,.st 1 A9 z8.1)]) (fun z8=>[(0,.row [.sl q9 l1,.i p9,.i z8.2.1,.i z8.2.2]),(1,.tip (tpe 10 (List.length z8.1)) (List.length z8.1))]) rfl ?_ (fun z8 hx=>?_) (fun r res hz hr hn=>?_)
 ·replace h:=g2
  clear g2
  refine C9 ?_
  refine P7 rfl ?_
  revert y1
  refine X8 (fun m (x:List Nod × Int × Int)=>X5 n Φ p9 l1 m x.1 x.2.1 x.2.2) (fun x=>[(0,.ptr 0 0),(4,.st 1 A9 x.1)]) (fun x=>[(0,.row [.sl q9 l1,.i p9,.i x.2.1,.i x.2.2]),(1,.tip (tpe 10 (List.length x.1)) (List.length x.1))]) _ (fun _=>rfl) (fun m2 x y ih h=>?_) n (([]:List Nod),at3,j6)
  obtain ⟨l517,a3S,b2G⟩:=x
  rw [X5] at h
  refine p8 (eSG (oA 1 rfl ?_))
  obtain ⟨⟨r5,at6⟩,g3,h⟩:=j5 h
  refine oV (u6 g3) ?_
  refine oB 1 rfl ?_
  refine eI rfl h (fun h=>?_) fun h=>?_
  ·refine o8 ?_
   refine C9 ?_
   refine eSG (oA 1 rfl ?_)
   obtain ⟨⟨r7,r8,at9,b7X⟩,g5,h⟩:=j5 h
   obtain ⟨r7_0,r7_1,r7_2,⟨r7_3,r7_4,r7_5,r7_6⟩,r7_7,r7_8,r7_9⟩:=r7
   refine oV (hΦ.R5 g5) ?_
   refine oB 6 rfl (p8 (eSG (oB 2 rfl ?_)))
   refine eI rfl h (fun h=>?_) fun h=>?_
   ·refine eSG (oB 3 rfl ?_)
    cases h
    exact o5 ⟨_,rfl,_,_,_,rfl,rfl,rfl⟩
   ·refine o8 (o6 (oA 3 rfl ?_))
    obtain ⟨l11,g7,h⟩:=j5 h
    refine oP Z7 g7 ?_
    refine oB 1 rfl ?_
    exact ⟨_,_,rfl,ih (_,_,_) _ h⟩
  ·refine M4 ?_
   cases h
   exact ⟨_,rfl,rfl⟩
 ·subst hx
  obtain ⟨l529,b2H,b85⟩:=z8
  refine eSG (oB 3 rfl ?_)
  cases h
  exact o5 ⟨_,_,_,rfl,rfl,rfl⟩
 ·subst hz
  rcases res with ⟨_ | _ | _ | _,_,_⟩ <;> first | exact absurd rfl hn | exact hr.elim | (cases h; exact hr)
theorem a6Y (n:Nat) {Φ:d9} (hΦ:Φ.Ok) {l1:List Tok} {p9:Int} {at3:Int} {j6:Int} {r:Nod × Bool × Int × Int} (h:J6 n Φ l1 p9 at3 j6 = some r) :
  E env (.call 234 [.ptr 0 0]) (hR q9 l1 p9 at3 j6) = some (a4q l1 p9 at3 j6 r):=by
 unfold J6 at h
 refine F4 rfl Tryz.func234 rfl rfl ?_
 refine eSG (oB 2 rfl (eSG (oA 1 rfl ?_)))
 obtain ⟨r5,g1,h⟩:=j5 h
 refine oV (K4 g1) ?_
 refine oB 1 rfl (p8 ?_)
 refine C9 ?_
 obtain ⟨y2,g3,h⟩:=j5 h
 refine Y5 [(0,.ptr 0 0),(2,.ptr 1 0),(4,.i r5),(24,.bool y2)] [(0,.row [.sl q9 l1,.i p9,.i at3,.i j6]),(1,.row [.i 0,.str [],.i 0,.i 0,.str [],.i 0,.st 2 l6 ([]:List Typ),.st 3 l6 ([]:List Typ),.st 4 A9 ([]:List Nod),.i 0]),(2,.tip 0 0),(3,.tip 0 0),(4,.tip 0 0)] rfl ?_ ?_
 ·replace h:=g3
  clear g3
  refine o6 (oA 1 rfl ?_)
  obtain ⟨r6,g4,h⟩:=j5 h
  refine oV (M6 g4) ?_
  refine oA 1 rfl ?_
  refine D5 rfl rfl rfl (fun g5=>?_) (fun g5=>?_)
  ·replace h:=U3 h g5
   refine oB 4 rfl ?_
   cases h
   exact rfl
  ·replace h:=U4 h g5
   refine oA 1 rfl ?_
   obtain ⟨r7,g6,h⟩:=j5 h
   refine oV (M6 g6) ?_
   refine oB 2 rfl ?_
   cases h
   exact rfl
 ·obtain ⟨b5O,rfl⟩:∃ q,q = y2:=⟨_,rfl⟩
  refine eI rfl h (fun h=>?_) fun h=>?_
  ·refine eSG (oA 1 rfl ?_)
   obtain ⟨⟨r8,r9,at10,a2y⟩,g8,h⟩:=j5 h
   obtain ⟨r8_0,r8_1,r8_2,⟨r8_3,r8_4,r8_5,r8_6⟩,r8_7,r8_8,r8_9⟩:=r8
   refine oV (hΦ.a1f g8) ?_
   refine oB 4 rfl ?_
   cases h
   exact o5 ⟨_,_,_,rfl,rfl,rfl⟩
  ·refine eSG (oA 1 rfl ?_)
   obtain ⟨r12,g9,h⟩:=j5 h
   refine oV (M6 g9) ?_
   refine oB 1 rfl ?_
   refine eI rfl h (fun h=>?_) fun h=>?_
   ·refine eSG (oA 1 rfl ?_)
    obtain ⟨⟨r13,r14,at15,c02⟩,g11,h⟩:=j5 h
    obtain ⟨r13_0,r13_1,r13_2,⟨r13_3,r13_4,r13_5,r13_6⟩,r13_7,r13_8,r13_9⟩:=r13
    refine oV (hΦ.Q8 g11) ?_
    refine oB 4 rfl ?_
    cases h
    exact o5 ⟨_,_,_,rfl,rfl,rfl⟩
   ·refine eSG (oA 1 rfl ?_)
    obtain ⟨⟨r17,at18⟩,g12,h⟩:=j5 h
    refine oV (I6 g12) ?_
    refine oB 1 rfl ?_
    refine eI rfl h (fun h=>?_) fun h=>?_
    ·refine eSG (oA 1 rfl ?_)
     obtain ⟨⟨r19,r20,at21,a6m⟩,g14,h⟩:=j5 h
     obtain ⟨r19_0,r19_1,r19_2,⟨r19_3,r19_4,r19_5,r19_6⟩,r19_7,r19_8,r19_9⟩:=r19
     refine oV (hΦ.E5 g14) ?_
     refine oB 6 rfl (p8 (eSG (oB 2 rfl ?_)))
     refine eI rfl h (fun h=>?_) fun h=>?_
     ·refine eSG (oB 3 rfl ?_)
      cases h
      exact o5 ⟨_,_,_,rfl,rfl,rfl⟩
     ·refine o8 (eSG (oA 1 rfl ?_))
      obtain ⟨⟨r23,r24,at25,b2Q⟩,g16,h⟩:=j5 h
      obtain ⟨r23_0,r23_1,r23_2,⟨r23_3,r23_4,r23_5,r23_6⟩,r23_7,r23_8,r23_9⟩:=r23
      refine oV (hΦ.J4 g16) ?_
      refine oB 6 rfl (eSG (oA 4 rfl ?_))
      refine oD ?_
      refine oB 3 rfl ?_
      cases h
      exact o5 ⟨_,_,_,rfl,rfl,rfl⟩
    ·refine eSG (oA 1 rfl ?_)
     obtain ⟨⟨r27,at28⟩,g17,h⟩:=j5 h
     refine oV (I6 g17) ?_
     refine oB 1 rfl ?_
     refine eI rfl h (fun h=>?_) fun h=>?_
     ·refine eSG (oA 2 rfl ?_)
      obtain ⟨⟨l29,r30,at31,b1i⟩,g19,h⟩:=j5 h
      refine oV (hΦ.a1g g19) ?_
      refine oB 4 rfl ?_
      cases h
      exact o5 ⟨_,_,_,rfl,rfl,rfl⟩
     ·refine eSG (oA 1 rfl ?_)
      obtain ⟨⟨r33,at34⟩,g20,h⟩:=j5 h
      refine oV (I6 g20) ?_
      refine oB 1 rfl ?_
      refine eI rfl h (fun h=>?_) fun h=>?_
      ·refine eSG (oA 1 rfl ?_)
       refine oD ?_
       refine oB 2 rfl (p8 (eSG (oA 1 rfl ?_)))
       obtain ⟨⟨r35,at36⟩,g22,h⟩:=j5 h
       refine oV (u6 g22) ?_
       refine A8 ?_
       refine eI rfl h (fun h=>?_) fun h=>?_
       ·refine eSG (oB 3 rfl ?_)
        cases h
        exact o5 ⟨_,_,_,rfl,rfl,rfl⟩
       ·refine o8 (eSG (oA 1 rfl ?_))
        obtain ⟨⟨r37,r38,at39,b4D⟩,g24,h⟩:=j5 h
        obtain ⟨r37_0,r37_1,r37_2,⟨r37_3,r37_4,r37_5,r37_6⟩,r37_7,r37_8,r37_9⟩:=r37
        refine oV (hΦ.E5 g24) ?_
        refine oB 6 rfl (eSG (oB 4 rfl (p8 ?_)))
        refine O9 [640] rfl ?_
        refine oC rfl rfl (oC rfl rfl (oC rfl rfl ?_))
        rcases Bool.eq_false_or_eq_true r38 with g25 | g25
        ·replace h:=U3 h g25
         refine H8 rfl ?_
         refine D7 (congrArg some g25) rfl rfl ?_
         refine A8 (H8 rfl ?_)
         obtain ⟨⟨r41,at42⟩,g26,h⟩:=j5 h
         refine a7b (congrArg some g25) rfl rfl (a4W rfl rfl (u6 g26) rfl rfl rfl) ?_
         refine A8 (H8 rfl ?_)
         refine b26 rfl rfl rfl g25 rfl ?_
         refine A8 (oC rfl rfl (oC rfl rfl ?_))
         refine Y0 ?_
         refine ⟨rfl,?_⟩
         cases h
         exact o5 ⟨_,_,_,rfl,rfl,rfl⟩
        ·replace h:=U4 h g25
         refine a5q (congrArg some g25) ?_
         refine a5q (congrArg some g25) ?_
         refine H8 rfl ?_
         refine b2O rfl rfl rfl g25 rfl ?_
         refine A8 (oC rfl rfl (oC rfl rfl ?_))
         refine Y0 ?_
         refine ⟨rfl,?_⟩
         cases h
         exact o5 ⟨_,_,_,rfl,rfl,rfl⟩
      ·refine eSG (oA 1 rfl ?_)
       obtain ⟨⟨r43,at44⟩,g27,h⟩:=j5 h
       refine oV (I6 g27) ?_
       refine oB 1 rfl ?_
       refine eI rfl h (fun h=>?_) fun h=>?_
       ·refine eSG (oA 1 rfl ?_)
        obtain ⟨⟨r45,r46,at47,b4G⟩,g29,h⟩:=j5 h
        obtain ⟨r45_0,r45_1,r45_2,⟨r45_3,r45_4,r45_5,r45_6⟩,r45_7,r45_8,r45_9⟩:=r45
        refine oV (hΦ.E5 g29) ?_
        refine oB 6 rfl (p8 ?_)
        refine O9 [832] rfl ?_
        refine oC rfl rfl (oC rfl rfl (oC rfl rfl (H8 rfl ?_)))
        refine oD ?_
        refine A8 (oC rfl rfl (oC rfl rfl ?_))
        rcases Bool.eq_false_or_eq_true r46 with g30 | g30
        ·replace h:=U3 h g30
         refine H8 rfl ?_
         refine D7 (congrArg some g30) rfl rfl ?_
         refine A8 (H8 rfl ?_)
         obtain ⟨⟨r49,at50⟩,g31,h⟩:=j5 h
         refine a7b (congrArg some g30) rfl rfl (a4W rfl rfl (u6 g31) rfl rfl rfl) ?_
         refine A8 (H8 rfl ?_)
         refine b26 rfl rfl rfl g30 rfl ?_
         refine A8 (oC rfl rfl (oC rfl rfl ?_))
         refine Y0 ?_
         refine ⟨rfl,?_⟩
         cases h
         exact o5 ⟨_,_,_,rfl,rfl,rfl⟩
        ·replace h:=U4 h g30
         refine a5q (congrArg some g30) ?_
         refine a5q (congrArg some g30) ?_
         refine H8 rfl ?_
         refine b2O rfl rfl rfl g30 rfl ?_
         refine A8 (oC rfl rfl (oC rfl rfl ?_))
         refine Y0 ?_
         refine ⟨rfl,?_⟩
         cases h
         exact o5 ⟨_,_,_,rfl,rfl,rfl⟩
       ·refine eSG (oA 1 rfl ?_)
        obtain ⟨⟨r51,at52⟩,g32,h⟩:=j5 h
        refine oV (I6 g32) ?_
        refine oB 1 rfl ?_
        refine eI rfl h (fun h=>?_) fun h=>?_
        ·refine eSG (oA 1 rfl ?_)
         obtain ⟨⟨r53,r54,at55,b0d⟩,g34,h⟩:=j5 h
         obtain ⟨r53_0,r53_1,r53_2,⟨r53_3,r53_4,r53_5,r53_6⟩,r53_7,r53_8,r53_9⟩:=r53
         refine oV (hΦ.J4 g34) ?_
         refine oB 6 rfl (p8 ?_)
         obtain ⟨y35,g36,h⟩:=j5 h
         refine Y5 [(0,.ptr 0 0),(2,.ptr 1 0),(4,.i r5),(14,.ptr 2 0),(125,.bool y35.1)] [(0,.row [.sl q9 l1,.i p9,.i y35.2,.i b0d]),(1,.row [.i 0,.str [],.i 0,.i 0,.str [],.i 0,.st 3 l6 ([]:List Typ),.st 4 l6 ([]:List Typ),.st 5 A9 ([]:List Nod),.i 0]),(2,.row (c0 r53_0 r53_1 r53_2 r53_3 r53_4 r53_5 (.sl l6 r53_6) (.sl l6 r53_7) (.sl A9 r53_8) r53_9)),(3,.tip 0 0),(4,.tip 0 0),(5,.tip 0 0)] rfl ?_ ?_
         ·replace h:=g36
          clear g36
          refine o6 (oA 3 rfl ?_)
          refine D5 rfl rfl rfl (fun g37=>?_) (fun g37=>?_)
          ·replace h:=U3 h g37
           refine oB 4 rfl ?_
           cases h
           exact rfl
          ·replace h:=U4 h g37
           refine oA 1 rfl ?_
           obtain ⟨⟨r57,at58⟩,g38,h⟩:=j5 h
           refine oV (I6 g38) ?_
           refine oB 2 rfl ?_
           cases h
           exact rfl
         ·obtain ⟨x517,a3S⟩:=y35
          refine eI rfl h (fun h=>?_) fun h=>?_
          ·refine eSG (oB 3 rfl ?_)
           cases h
           exact o5 ⟨_,_,_,rfl,rfl,rfl⟩
          ·refine o8 (eSG (oA 1 rfl ?_))
           obtain ⟨⟨r59,r60,at61⟩,g40,h⟩:=j5 h
           refine oV (I9 g40) ?_
           refine oB 5 rfl (p8 (eSG (oB 2 rfl ?_)))
           refine eI rfl h (fun h=>?_) fun h=>?_
           ·refine eSG (oB 3 rfl ?_)
            cases h
            exact o5 ⟨_,_,_,rfl,rfl,rfl⟩
           ·refine o8 (eSG (oA 1 rfl ?_))
            obtain ⟨⟨r62,r63,at64,b2T⟩,g42,h⟩:=j5 h
            obtain ⟨r62_0,r62_1,r62_2,⟨r62_3,r62_4,r62_5,r62_6⟩,r62_7,r62_8,r62_9⟩:=r62
            refine oV (hΦ.J4 g42) ?_
            refine oB 6 rfl (eSG (oA 5 rfl ?_))
            refine oD ?_
            refine oB 3 rfl ?_
            cases h
            exact o5 ⟨_,_,_,rfl,rfl,rfl⟩
        ·refine eSG (oA 1 rfl ?_)
         obtain ⟨⟨r66,at67⟩,g43,h⟩:=j5 h
         refine oV (I6 g43) ?_
         refine oB 1 rfl ?_
         refine eI rfl h (fun h=>?_) fun h=>?_
         ·refine eSG (oA 1 rfl ?_)
          obtain ⟨⟨r68,r69,at70,c0R⟩,g45,h⟩:=j5 h
          obtain ⟨r68_0,r68_1,r68_2,⟨r68_3,r68_4,r68_5,r68_6⟩,r68_7,r68_8,r68_9⟩:=r68
          refine oV (hΦ.J4 g45) ?_
          refine oB 6 rfl (eSG (oA 3 rfl ?_))
          refine oD ?_
          refine oB 3 rfl ?_
          cases h
          exact o5 ⟨_,_,_,rfl,rfl,rfl⟩
         ·refine o8 (eSG (oA 1 rfl ?_))
          obtain ⟨⟨r72,r73,at74,c0A⟩,g46,h⟩:=j5 h
          obtain ⟨r72_0,r72_1,r72_2,⟨r72_3,r72_4,r72_5,r72_6⟩,r72_7,r72_8,r72_9⟩:=r72
          refine oV (hΦ.a05 g46) ?_
          refine oB 4 rfl ?_
          cases h
          exact o5 ⟨_,_,_,rfl,rfl,rfl⟩
theorem a8z (n:Nat) {Φ:d9} (hΦ:Φ.Ok) {l1:List Tok} {p9:Int} {at3:Int} {j6:Int} {r:Nod × Bool × Int × Int} (h:a2b n Φ l1 p9 at3 j6 = some r) :
  E env (.call 169 [.ptr 0 0]) (hR q9 l1 p9 at3 j6) = some (a5F l1 p9 at3 j6 r):=by
 unfold a2b at h
 refine F4 rfl Tryz.func169 rfl rfl ?_
 refine eSG (oB 2 rfl (eSG (oA 1 rfl ?_)))
 obtain ⟨r5,g1,h⟩:=j5 h
 refine oV (K4 g1) ?_
 refine oD ?_
 refine oB 2 rfl (p8 (eSG (oA 1 rfl ?_)))
 obtain ⟨⟨r6,at7⟩,g2,h⟩:=j5 h
 refine oV (u6 g2) ?_
 refine oB 1 rfl ?_
 refine eI rfl h (fun h=>?_) fun h=>?_
 ·refine eSG (oB 3 rfl ?_)
  cases h
  exact o5 ⟨_,_,_,rfl,rfl,rfl⟩
 ·refine o8 (eSG (oA 1 rfl ?_))
  obtain ⟨⟨r8,r9,at10,a2y⟩,g4,h⟩:=j5 h
  refine oV (hΦ.S9 g4) ?_
  refine oB 5 rfl (eSG (oB 3 rfl (eSG (oB 4 rfl ?_))))
  cases h
  exact o5 ⟨_,_,_,rfl,rfl,rfl⟩
theorem a8G (n:Nat) {Φ:d9} (hΦ:Φ.Ok) {l1:List Tok} {p9:Int} {at3:Int} {j6:Int} {r:Nod × Bool × Int × Int} (h:a2e n Φ l1 p9 at3 j6 = some r) :
  E env (.call 254 [.ptr 0 0]) (hR q9 l1 p9 at3 j6) = some (a2G l1 p9 at3 j6 r):=by
 unfold a2e at h
 refine F4 rfl Tryz.func254 rfl rfl ?_
 refine eSG (oB 2 rfl (eSG (oA 1 rfl ?_)))
 obtain ⟨r5,g1,h⟩:=j5 h
 refine oV (K4 g1) ?_
 refine oD ?_
 refine oB 2 rfl ?_
 obtain ⟨y2,g3,h⟩:=j5 h
 refine Y5 [(0,.ptr 0 0),(2,.ptr 1 0),(4,.ptr 2 0)] [(0,.row [.sl q9 l1,.i p9,.i y2.1,.i j6]),(1,.row [.i 0,.str [],.i 0,.i 0,.str [],.i 0,.st 3 l6 ([]:List Typ),.st 4 l6 ([]:List Typ),.st 5 A9 ([]:List Nod),.i 0]),(2,.row [.i 21,.str [],.i y2.2,.i 0,.str [],.i 0,.st 6 l6 ([]:List Typ),.st 7 l6 ([]:List Typ),.st 8 A9 ([]:List Nod),.i r5]),(3,.tip 0 0),(4,.tip 0 0),(5,.tip 0 0),(6,.tip 0 0),(7,.tip 0 0),(8,.tip 0 0)] rfl ?_ ?_
 ·replace h:=g3
  clear g3
  refine eSG (oA 1 rfl ?_)
  obtain ⟨⟨r6,at7⟩,g4,h⟩:=j5 h
  refine oV (I6 g4) ?_
  refine A8 ?_
  refine eI rfl h (fun h=>?_) fun h=>?_
  ·refine o6 (oB 2 rfl ?_)
   cases h
   exact rfl
  ·refine o6 (oA 1 rfl ?_)
   obtain ⟨⟨r8,at9⟩,g6,h⟩:=j5 h
   refine oV (I6 g6) ?_
   refine A8 ?_
   cases h
   exact rfl
 ·obtain ⟨b2H,n531⟩:=y2
  refine eSG (oA 1 rfl ?_)
  obtain ⟨⟨r10,r11,at12⟩,g7,h⟩:=j5 h
  refine oV (I9 g7) ?_
  refine oB 5 rfl (p8 (eSG (oB 2 rfl ?_)))
  refine eI rfl h (fun h=>?_) fun h=>?_
  ·refine eSG (oB 3 rfl ?_)
   cases h
   exact o5 ⟨_,_,_,rfl,rfl,rfl⟩
  ·refine o8 (eSG (oB 3 rfl (eSG (oB 1 rfl ?_))))
   obtain ⟨y9,g10,h⟩:=O4 h
   refine Q6 (KR:=fun r=>a2s env 254 1 Tryz.f254.results.toList (a2G l1 p9 at3 j6 r)) y9 (fun z27=>[(0,.ptr 0 0),(2,.ptr 1 0),(4,.ptr 2 0),(7,.bool z27.1)]) (fun z27=>[(0,.row [.sl q9 l1,.i p9,.i z27.2.1,.i j6]),(1,.row [.i 0,.str [],.i 0,.i 0,.str [],.i 0,.st 3 l6 ([]:List Typ),.st 4 l6 ([]:List Typ),.st 5 A9 ([]:List Nod),.i 0]),(2,.row (c0 21 r10 n531 z27.2.2.1 z27.2.2.2.1 z27.2.2.2.2.1 (.sl l6 z27.2.2.2.2.2) (.st 6 l6 ([]:List Typ)) (.st 7 A9 ([]:List Nod)) r5)),(3,.tip 0 0),(4,.tip 0 0),(5,.tip 0 0),(6,.tip 0 0),(7,.tip 0 0)]) rfl ?_ (fun z27 hx=>?_) (fun r res hz hr hn=>?_)
   ·replace h:=g10
    clear g10
    refine eSG (oA 1 rfl ?_)
    obtain ⟨⟨r13,at14⟩,g11,h⟩:=j5 h
    refine oV (u6 g11) ?_
    refine A8 ?_
    refine eI rfl h (fun h=>?_) fun h=>?_
    ·refine eSG (oA 1 rfl ?_)
     obtain ⟨⟨r15,r16,at17⟩,g13,h⟩:=j5 h
     obtain ⟨r15_0,r15_1,r15_2,r15_3⟩:=r15
     refine oV (a4E g13) ?_
     refine oB 6 rfl (p8 (eSG (oB 2 rfl ?_)))
     refine eI rfl h (fun h=>?_) fun h=>?_
     ·refine eSG (oB 3 rfl ?_)
      cases h
      exact o5 ⟨_,rfl,_,_,_,rfl,rfl,rfl⟩
     ·refine o8 (eSG (oB 3 rfl (o6 (oB 1 rfl ?_))))
      cases h
      exact ⟨_,rfl,rfl⟩
    ·refine o8 ?_
     cases h
     exact ⟨_,rfl,rfl⟩
   ·subst hx
    obtain ⟨b8n,at533,b1s,b1q,b0t,b1g⟩:=z27
    obtain ⟨y15,g16,h⟩:=O4 h
    refine Q6 (KR:=fun r=>a2s env 254 1 Tryz.f254.results.toList (a2G l1 p9 at3 j6 r)) y15 (fun z26=>[(0,.ptr 0 0),(2,.ptr 1 0),(4,.ptr 2 0)]) (fun z26=>[(0,.row [.sl q9 l1,.i p9,.i z26.1,.i z26.2.1]),(1,.row [.i 0,.str [],.i 0,.i 0,.str [],.i 0,.st 3 l6 ([]:List Typ),.st 4 l6 ([]:List Typ),.st 5 A9 ([]:List Nod),.i 0]),(2,.row (c0 21 r10 n531 b1s b1q b0t (.sl l6 b1g) (.st 6 l6 ([]:List Typ)) (.st 7 A9 z26.2.2) r5)),(3,.tip 0 0),(4,.tip 0 0),(5,.tip 0 0),(6,.tip 0 0),(7,.tip (tpe 10 (List.length z26.2.2)) (List.length z26.2.2))]) rfl ?_ (fun z26 hx=>?_) (fun r res hz hr hn=>?_)
    ·replace h:=g16
     clear g16
     refine eSG (oA 1 rfl ?_)
     obtain ⟨⟨r18,at19⟩,g17,h⟩:=j5 h
     refine oV (u6 g17) ?_
     refine A8 ?_
     refine eI rfl h (fun h=>?_) fun h=>?_
     ·refine eSG (oA 1 rfl ?_)
      obtain ⟨⟨r20,r21,at22,b1e⟩,g19,h⟩:=j5 h
      obtain ⟨r20_0,r20_1,r20_2,⟨r20_3,r20_4,r20_5,r20_6⟩,r20_7,r20_8,r20_9⟩:=r20
      refine oV (hΦ.E5 g19) ?_
      refine oB 6 rfl (p8 (eSG (oB 2 rfl ?_)))
      refine eI rfl h (fun h=>?_) fun h=>?_
      ·refine eSG (oB 3 rfl ?_)
       cases h
       exact o5 ⟨_,rfl,_,_,_,rfl,rfl,rfl⟩
      ·refine o8 (o6 (oB 4 rfl ?_))
       cases h
       exact ⟨_,rfl,rfl⟩
     ·obtain ⟨y21,g22,h⟩:=j5 h
      refine Y5 [(0,.ptr 0 0),(2,.ptr 1 0),(4,.ptr 2 0),(62,.bool y21)] [(0,.row [.sl q9 l1,.i p9,.i at19,.i j6]),(1,.row [.i 0,.str [],.i 0,.i 0,.str [],.i 0,.st 3 l6 ([]:List Typ),.st 4 l6 ([]:List Typ),.st 5 A9 ([]:List Nod),.i 0]),(2,.row (c0 21 r10 n531 b1s b1q b0t (.sl l6 b1g) (.st 6 l6 ([]:List Typ)) (.st 7 A9 ([]:List Nod)) r5)),(3,.tip 0 0),(4,.tip 0 0),(5,.tip 0 0),(6,.tip 0 0),(7,.tip 0 0)] rfl ?_ ?_
      ·replace h:=g22
       clear g22
       refine o6 (oA 4 rfl ?_)
       refine D5 rfl rfl rfl (fun g23=>?_) (fun g23=>?_)
       ·replace h:=U3 h g23
        refine oB 3 rfl ?_
        cases h
        exact rfl
       ·replace h:=U4 h g23
        refine oB 3 rfl ?_
        cases h
        exact rfl
      ·obtain ⟨x538,rfl⟩:∃ q,q = y21:=⟨_,rfl⟩
       refine eI rfl h (fun h=>?_) fun h=>?_
       ·refine eSG (oB 3 rfl ?_)
        cases h
        exact o5 ⟨_,rfl,_,_,_,rfl,rfl,rfl⟩
       ·refine o8 ?_
        cases h
        exact ⟨_,rfl,rfl⟩
    ·subst hx
     obtain ⟨b5t,a4n,l541⟩:=z26
     refine eSG (oA 1 rfl ?_)
     obtain ⟨⟨r24,at25⟩,g25,h⟩:=j5 h
     refine oV (u6 g25) ?_
     refine oB 1 rfl (eSG (oB 4 rfl ?_))
     cases h
     exact o5 ⟨_,_,_,rfl,rfl,rfl⟩
    ·subst hz
     rcases res with ⟨_ | _ | _ | _,_,_⟩ <;> first | exact absurd rfl hn | exact hr.elim | (cases h; exact hr)
   ·subst hz
    rcases res with ⟨_ | _ | _ | _,_,_⟩ <;> first | exact absurd rfl hn | exact hr.elim | (cases h; exact hr)
theorem a6z (n:Nat) {Φ:d9} (hΦ:Φ.Ok) {l1:List Tok} {p9:Int} {at3:Int} {j6:Int} {r:Nod × Bool × Int × Int} (h:a0N n Φ l1 p9 at3 j6 = some r) :
  E env (.call 255 [.ptr 0 0]) (hR q9 l1 p9 at3 j6) = some (a3U l1 p9 at3 j6 r):=by
 unfold a0N at h
 refine F4 rfl Tryz.func255 rfl rfl ?_
 refine eSG (oB 2 rfl (eSG (oA 1 rfl ?_)))
 obtain ⟨r5,g1,h⟩:=j5 h
 refine oV (K4 g1) ?_
 refine oD ?_
 refine oB 2 rfl (eSG (oA 1 rfl ?_))
 obtain ⟨⟨r6,at7⟩,g2,h⟩:=j5 h
 refine oV (I6 g2) ?_
 refine A8 (eSG (oA 1 rfl ?_))
 obtain ⟨⟨r8,r9,at10,a2y⟩,g3,h⟩:=j5 h
 obtain ⟨r8_0,r8_1,r8_2,⟨r8_3,r8_4,r8_5,r8_6⟩,r8_7,r8_8,r8_9⟩:=r8
 refine oV (hΦ.E5 g3) ?_
 refine oB 6 rfl (p8 (eSG (oB 2 rfl ?_)))
 refine eI rfl h (fun h=>?_) fun h=>?_
 ·refine eSG (oB 3 rfl ?_)
  cases h
  exact o5 ⟨_,_,_,rfl,rfl,rfl⟩
 ·refine o8 (eSG (oA 1 rfl ?_))
  obtain ⟨⟨r12,r13,at14,a9U⟩,g5,h⟩:=j5 h
  obtain ⟨r12_0,r12_1,r12_2,⟨r12_3,r12_4,r12_5,r12_6⟩,r12_7,r12_8,r12_9⟩:=r12
  refine oV (hΦ.J4 g5) ?_
  refine oB 6 rfl (p8 (eSG (oB 2 rfl ?_)))
  refine eI rfl h (fun h=>?_) fun h=>?_
  ·refine eSG (oB 3 rfl ?_)
   cases h
   exact o5 ⟨_,_,_,rfl,rfl,rfl⟩
  ·refine o8 (eSG (oB 5 rfl (p8 (eSG (oA 1 rfl ?_)))))
   obtain ⟨⟨r16,at17⟩,g7,h⟩:=j5 h
   refine oV (I6 g7) ?_
   refine oB 1 rfl ?_
   refine eI rfl h (fun h=>?_) fun h=>?_
   ·refine eSG (oB 3 rfl ?_)
    cases h
    exact o5 ⟨_,_,_,rfl,rfl,rfl⟩
   ·refine o8 (eSG (oB 1 rfl ?_))
    obtain ⟨y9,g10,h⟩:=j5 h
    refine Y5 [(2,.ptr 1 0),(4,.ptr 2 0),(5,.ptr 3 0),(7,.ptr 4 0),(8,.bool y9.1),(9,.ptr 5 0)] [(0,.row [.sl q9 l1,.i p9,.i y9.2.1,.i y9.2.2.1]),(1,.row [.i 0,.str [],.i 0,.i 0,.str [],.i 0,.st 6 l6 ([]:List Typ),.st 7 l6 ([]:List Typ),.st 8 A9 ([]:List Nod),.i 0]),(2,.row [.i 24,.str [],.i 0,.i 0,.str [],.i 0,.st 9 l6 ([]:List Typ),.st 10 l6 ([]:List Typ),.st 11 A9 ([(Nod.mk r8_0 r8_1 r8_2 (Typ.mk r8_3 r8_4 r8_5 r8_6) r8_7 r8_8 r8_9),(Nod.mk r12_0 r12_1 r12_2 (Typ.mk r12_3 r12_4 r12_5 r12_6) r12_7 r12_8 r12_9)]:List Nod),.i r5]),(3,.row (c0 r8_0 r8_1 r8_2 r8_3 r8_4 r8_5 (.sl l6 r8_6) (.sl l6 r8_7) (.sl A9 r8_8) r8_9)),(4,.row (c0 r12_0 r12_1 r12_2 r12_3 r12_4 r12_5 (.sl l6 r12_6) (.sl l6 r12_7) (.sl A9 r12_8) r12_9)),(5,.row (c0 y9.2.2.2.op y9.2.2.2.s y9.2.2.2.n y9.2.2.2.t.kind y9.2.2.2.t.name y9.2.2.2.t.n (.sl l6 y9.2.2.2.t.args) (.sl l6 y9.2.2.2.ts) (.sl A9 y9.2.2.2.l) y9.2.2.2.at_)),(6,.tip 0 0),(7,.tip 0 0),(8,.tip 0 0),(9,.tip 0 0),(10,.tip 0 0),(11,.tip (tpe 10 (List.length ([(Nod.mk r8_0 r8_1 r8_2 (Typ.mk r8_3 r8_4 r8_5 r8_6) r8_7 r8_8 r8_9),(Nod.mk r12_0 r12_1 r12_2 (Typ.mk r12_3 r12_4 r12_5 r12_6) r12_7 r12_8 r12_9)]:List Nod))) (List.length ([(Nod.mk r8_0 r8_1 r8_2 (Typ.mk r8_3 r8_4 r8_5 r8_6) r8_7 r8_8 r8_9),(Nod.mk r12_0 r12_1 r12_2 (Typ.mk r12_3 r12_4 r12_5 r12_6) r12_7 r12_8 r12_9)]:List Nod)))] rfl ?_ ?_
    ·replace h:=g10
     clear g10
     refine eSG (oA 1 rfl ?_)
     obtain ⟨r18,g11,h⟩:=j5 h
     refine oV (M6 g11) ?_
     refine A8 ?_
     refine eI rfl h (fun h=>?_) fun h=>?_
     ·refine o6 (oA 1 rfl ?_)
      obtain ⟨⟨r19,r20,at21,a6m⟩,g13,h⟩:=j5 h
      obtain ⟨r19_0,r19_1,r19_2,⟨r19_3,r19_4,r19_5,r19_6⟩,r19_7,r19_8,r19_9⟩:=r19
      refine oV (hΦ.Q8 g13) ?_
      refine oB 5 rfl ?_
      cases h
      exact rfl
     ·refine o6 (oA 1 rfl ?_)
      obtain ⟨⟨r23,r24,at25,b2Q⟩,g14,h⟩:=j5 h
      obtain ⟨r23_0,r23_1,r23_2,⟨r23_3,r23_4,r23_5,r23_6⟩,r23_7,r23_8,r23_9⟩:=r23
      refine oV (hΦ.J4 g14) ?_
      refine oB 5 rfl ?_
      cases h
      exact rfl
    ·obtain ⟨b8R,b2N,b2s,n516⟩:=y9
     obtain ⟨n516_0,n516_1,n516_2,⟨n516_3,n516_4,n516_5,n516_6⟩,n516_7,n516_8,n516_9⟩:=n516
     refine eSG (oB 6 rfl (eSG (oB 4 rfl ?_)))
     cases h
     exact o5 ⟨_,_,_,rfl,rfl,rfl⟩
theorem a9n (n:Nat) {Φ:d9} (hΦ:Φ.Ok) {at1:Int} {l2:List Tok} {L6:Int} {at4:Int} {G7:Int} {r:List Nod × Bool × Int × Int} (h:a2d n Φ at1 l2 L6 at4 G7 = some r) :
  E env (.call 256 [.ptr 0 0,.i at1]) (hR q9 l2 L6 at4 G7) = some (a2B at1 l2 L6 at4 G7 r):=by
 unfold a2d at h
 refine F4 rfl Tryz.func256 rfl rfl ?_
 refine eSG (oB 2 rfl (eSG (oA 1 rfl ?_)))
 refine oD ?_
 refine oB 2 rfl (eSG (oA 1 rfl ?_))
 obtain ⟨⟨r6,r7,at8,b0c⟩,g1,h⟩:=j5 h
 obtain ⟨r6_0,r6_1,r6_2,⟨r6_3,r6_4,r6_5,r6_6⟩,r6_7,r6_8,r6_9⟩:=r6
 refine oV (hΦ.E5 g1) ?_
 refine oB 6 rfl (p8 ?_)
 obtain ⟨y2,g3,h⟩:=j5 h
 refine Y5 [(0,.ptr 0 0),(4,.ptr 1 0),(6,.ptr 2 0),(7,.ptr 3 0),(32,.bool y2.1)] [(0,.row [.sl q9 l2,.i L6,.i y2.2,.i b0c]),(1,.row [.i 0,.str [],.i 0,.i 0,.str [],.i 0,.st 4 l6 ([]:List Typ),.st 5 l6 ([]:List Typ),.st 6 A9 ([]:List Nod),.i 0]),(2,.row [.i 26,.str [],.i 0,.i 0,.str [],.i 0,.st 7 l6 ([]:List Typ),.st 8 l6 ([]:List Typ),.st 9 A9 ([]:List Nod),.i at1]),(3,.row (c0 r6_0 r6_1 r6_2 r6_3 r6_4 r6_5 (.sl l6 r6_6) (.sl l6 r6_7) (.sl A9 r6_8) r6_9)),(4,.tip 0 0),(5,.tip 0 0),(6,.tip 0 0),(7,.tip 0 0),(8,.tip 0 0),(9,.tip 0 0)] rfl ?_ ?_
 ·replace h:=g3
  clear g3
  refine o6 (oA 3 rfl ?_)
  refine D5 rfl rfl rfl (fun g4=>?_) (fun g4=>?_)
  ·replace h:=U3 h g4
   refine oB 4 rfl ?_
   cases h
   exact rfl
  ·replace h:=U4 h g4
   refine oA 1 rfl ?_
   obtain ⟨⟨r10,at11⟩,g5,h⟩:=j5 h
   refine oV (u6 g5) ?_
   refine oB 2 rfl ?_
   cases h
   exact rfl
 ·obtain ⟨x516,b3g⟩:=y2
  refine eI rfl h (fun h=>?_) fun h=>?_
  ·refine eSG (oB 3 rfl ?_)
   cases h
   exact o5 ⟨_,_,_,rfl,rfl,rfl⟩
  ·refine o8 (eSG (oB 3 rfl ?_))
   obtain ⟨y7,g8,h⟩:=O4 h
   refine Q6 (KR:=fun r=>a2s env 256 1 Tryz.f256.results.toList (a2B at1 l2 L6 at4 G7 r)) y7 (fun z29=>[(0,.ptr 0 0),(4,.ptr 1 0),(6,.ptr 2 0),(9,.st 3 A9 z29.1)]) (fun z29=>[(0,.row [.sl q9 l2,.i L6,.i z29.2.1,.i z29.2.2]),(1,.row [.i 0,.str [],.i 0,.i 0,.str [],.i 0,.st 4 l6 ([]:List Typ),.st 5 l6 ([]:List Typ),.st 6 A9 ([]:List Nod),.i 0]),(2,.row [.i 26,.str [],.i 0,.i 0,.str [],.i 0,.st 7 l6 ([]:List Typ),.st 8 l6 ([]:List Typ),.st 9 A9 ([]:List Nod),.i at1]),(3,.tip (tpe 10 (List.length z29.1)) (List.length z29.1)),(4,.tip 0 0),(5,.tip 0 0),(6,.tip 0 0),(7,.tip 0 0),(8,.tip 0 0),(9,.tip 0 0)]) rfl ?_ (fun z29 hx=>?_) (fun r res hz hr hn=>?_)
   ·replace h:=g8
    clear g8
    refine C9 ?_
    refine P7 rfl ?_
    revert y7
    refine X8 (fun m (x:List Nod × Int × Int)=>a0w n Φ L6 l2 m x.1 x.2.1 x.2.2) (fun x=>[(0,.ptr 0 0),(4,.ptr 1 0),(6,.ptr 2 0),(9,.st 3 A9 x.1)]) (fun x=>[(0,.row [.sl q9 l2,.i L6,.i x.2.1,.i x.2.2]),(1,.row [.i 0,.str [],.i 0,.i 0,.str [],.i 0,.st 4 l6 ([]:List Typ),.st 5 l6 ([]:List Typ),.st 6 A9 ([]:List Nod),.i 0]),(2,.row [.i 26,.str [],.i 0,.i 0,.str [],.i 0,.st 7 l6 ([]:List Typ),.st 8 l6 ([]:List Typ),.st 9 A9 ([]:List Nod),.i at1]),(3,.tip (tpe 10 (List.length x.1)) (List.length x.1)),(4,.tip 0 0),(5,.tip 0 0),(6,.tip 0 0),(7,.tip 0 0),(8,.tip 0 0),(9,.tip 0 0)]) _ (fun _=>rfl) (fun m6 x y ih h=>?_) n (([(Nod.mk r6_0 r6_1 r6_2 (Typ.mk r6_3 r6_4 r6_5 r6_6) r6_7 r6_8 r6_9)]:List Nod),b3g,b0c)
    obtain ⟨l518,a7l,a4N⟩:=x
    rw [a0w] at h
    refine p8 (eSG (oA 1 rfl ?_))
    obtain ⟨r12,g9,h⟩:=j5 h
    refine oV (M6 g9) ?_
    refine A8 ?_
    refine eI rfl h (fun h=>?_) fun h=>?_
    ·refine o8 ?_
     refine C9 ?_
     refine eSG (oA 1 rfl ?_)
     obtain ⟨r13,g11,h⟩:=j5 h
     refine oV (K4 g11) ?_
     refine oD ?_
     refine oB 2 rfl (eSG (oA 1 rfl ?_))
     obtain ⟨⟨r14,at15⟩,g12,h⟩:=j5 h
     refine oV (I6 g12) ?_
     refine A8 (eSG (oA 1 rfl ?_))
     obtain ⟨⟨r16,r17,at18⟩,g13,h⟩:=j5 h
     obtain ⟨r16_0,r16_1,r16_2,⟨r16_3,r16_4,r16_5,r16_6⟩,r16_7,r16_8,r16_9⟩:=r16
     refine oV (a9v g13) ?_
     refine oB 6 rfl (p8 (eSG (oB 2 rfl ?_)))
     refine eI rfl h (fun h=>?_) fun h=>?_
     ·refine eSG (oB 3 rfl ?_)
      cases h
      exact o5 ⟨_,rfl,_,_,_,rfl,rfl,rfl⟩
     ·refine o8 (eSG (oA 1 rfl ?_))
      obtain ⟨⟨r19,r20,at21,a6m⟩,g15,h⟩:=j5 h
      obtain ⟨r19_0,r19_1,r19_2,⟨r19_3,r19_4,r19_5,r19_6⟩,r19_7,r19_8,r19_9⟩:=r19
      refine oV (hΦ.J4 g15) ?_
      refine oB 6 rfl (p8 (eSG (oB 2 rfl ?_)))
      refine eI rfl h (fun h=>?_) fun h=>?_
      ·refine eSG (oB 3 rfl ?_)
       cases h
       exact o5 ⟨_,rfl,_,_,_,rfl,rfl,rfl⟩
      ·refine o8 (eSG (oB 5 rfl (o6 (oA 3 rfl ?_))))
       obtain ⟨l23,g17,h⟩:=j5 h
       refine oP Z7 g17 ?_
       refine oB 1 rfl ?_
       exact ⟨_,_,rfl,ih (_,_,_) _ h⟩
    ·refine M4 ?_
     cases h
     exact ⟨_,rfl,rfl⟩
   ·subst hx
    obtain ⟨l524,b4c,a9m⟩:=z29
    obtain ⟨y18,g19,h⟩:=O4 h
    refine Q6 (KR:=fun r=>a2s env 256 1 Tryz.f256.results.toList (a2B at1 l2 L6 at4 G7 r)) y18 (fun z28=>[(0,.ptr 0 0),(4,.ptr 1 0),(6,.ptr 2 0),(9,.st 3 A9 z28.1)]) (fun z28=>[(0,.row [.sl q9 l2,.i L6,.i z28.2.1,.i z28.2.2]),(1,.row [.i 0,.str [],.i 0,.i 0,.str [],.i 0,.st 4 l6 ([]:List Typ),.st 5 l6 ([]:List Typ),.st 6 A9 ([]:List Nod),.i 0]),(2,.row [.i 26,.str [],.i 0,.i 0,.str [],.i 0,.st 7 l6 ([]:List Typ),.st 8 l6 ([]:List Typ),.st 9 A9 ([]:List Nod),.i at1]),(3,.tip (tpe 10 (List.length z28.1)) (List.length z28.1)),(4,.tip 0 0),(5,.tip 0 0),(6,.tip 0 0),(7,.tip 0 0),(8,.tip 0 0),(9,.tip 0 0)]) rfl ?_ (fun z28 hx=>?_) (fun r res hz hr hn=>?_)
    ·replace h:=g19
     clear g19
     refine eSG (oA 1 rfl ?_)
     obtain ⟨r24,g20,h⟩:=j5 h
     refine oV (M6 g20) ?_
     refine A8 ?_
     refine eI rfl h (fun h=>?_) fun h=>?_
     ·refine eSG (oA 1 rfl ?_)
      obtain ⟨r25,g22,h⟩:=j5 h
      refine oV (K4 g22) ?_
      refine oD ?_
      refine oB 2 rfl (eSG (oA 1 rfl ?_))
      obtain ⟨⟨r26,at27⟩,g23,h⟩:=j5 h
      refine oV (I6 g23) ?_
      refine A8 (eSG (oA 1 rfl ?_))
      obtain ⟨⟨r28,r29,at30,b7T⟩,g24,h⟩:=j5 h
      obtain ⟨r28_0,r28_1,r28_2,⟨r28_3,r28_4,r28_5,r28_6⟩,r28_7,r28_8,r28_9⟩:=r28
      refine oV (hΦ.J4 g24) ?_
      refine oB 6 rfl (p8 (eSG (oB 2 rfl ?_)))
      refine eI rfl h (fun h=>?_) fun h=>?_
      ·refine eSG (oB 3 rfl ?_)
       cases h
       exact o5 ⟨_,rfl,_,_,_,rfl,rfl,rfl⟩
      ·refine o8 (eSG (oA 2 rfl ?_))
       refine oD ?_
       refine oB 4 rfl (o6 (oA 3 rfl ?_))
       obtain ⟨l32,g26,h⟩:=j5 h
       refine oP Z7 g26 ?_
       refine oB 1 rfl ?_
       cases h
       exact ⟨_,rfl,rfl⟩
     ·refine o8 ?_
      cases h
      exact ⟨_,rfl,rfl⟩
    ·subst hx
     obtain ⟨l544,at545,b0A⟩:=z28
     refine eSG (oB 3 rfl (eSG (oA 1 rfl ?_)))
     obtain ⟨⟨r33,at34⟩,g27,h⟩:=j5 h
     refine oV (u6 g27) ?_
     refine oB 1 rfl (eSG (oB 4 rfl ?_))
     cases h
     exact o5 ⟨_,_,_,rfl,rfl,rfl⟩
    ·subst hz
     rcases res with ⟨_ | _ | _ | _,_,_⟩ <;> first | exact absurd rfl hn | exact hr.elim | (cases h; exact hr)
   ·subst hz
    rcases res with ⟨_ | _ | _ | _,_,_⟩ <;> first | exact absurd rfl hn | exact hr.elim | (cases h; exact hr)
theorem a8q (n:Nat) {Φ:d9} (hΦ:Φ.Ok) {l1:List Tok} {p9:Int} {at3:Int} {j6:Int} {r:Nod × Bool × Int × Int} (h:a1P n Φ l1 p9 at3 j6 = some r) :
  E env (.call 257 [.ptr 0 0]) (hR q9 l1 p9 at3 j6) = some (a5d l1 p9 at3 j6 r):=by
 unfold a1P at h
 refine F4 rfl Tryz.func257 rfl rfl ?_
 refine eSG (oB 2 rfl (eSG (oA 1 rfl ?_)))
 obtain ⟨⟨r5,r6,at7,a3r⟩,g1,h⟩:=j5 h
 obtain ⟨r5_0,r5_1,r5_2,⟨r5_3,r5_4,r5_5,r5_6⟩,r5_7,r5_8,r5_9⟩:=r5
 refine oV (hΦ.E5 g1) ?_
 refine oB 6 rfl (p8 (eSG (oB 2 rfl ?_)))
 refine eI rfl h (fun h=>?_) fun h=>?_
 ·refine eSG (oB 3 rfl ?_)
  cases h
  exact o5 ⟨_,_,_,rfl,rfl,rfl⟩
 ·refine o8 (p8 (eSG (oA 1 rfl ?_)))
  obtain ⟨r9,g3,h⟩:=j5 h
  refine oV (M6 g3) ?_
  refine oB 1 rfl ?_
  refine eI rfl h (fun h=>?_) fun h=>?_
  ·refine eSG (oA 1 rfl ?_)
   obtain ⟨⟨r10,at11⟩,g5,h⟩:=j5 h
   refine oV (u6 g5) ?_
   refine oB 1 rfl (eSG (oA 4 rfl ?_))
   refine oD ?_
   refine oB 3 rfl ?_
   cases h
   exact o5 ⟨_,_,_,rfl,rfl,rfl⟩
  ·refine o8 (p8 (eSG (oA 1 rfl ?_)))
   obtain ⟨r12,g6,h⟩:=j5 h
   refine F7 rfl rfl rfl rfl rfl (b4O g6) rfl ?_
   refine oB 1 rfl ?_
   refine eI rfl h (fun h=>?_) fun h=>?_
   ·refine eSG (oB 6 rfl (eSG (oB 3 rfl ?_)))
    cases h
    exact o5 ⟨_,_,_,rfl,rfl,rfl⟩
   ·refine o8 (eSG (oA 1 rfl ?_))
    obtain ⟨⟨r13,at14⟩,g8,h⟩:=j5 h
    refine oV (u6 g8) ?_
    refine A8 (eSG (oA 1 rfl ?_))
    obtain ⟨⟨r15,r16,at17,a9Z⟩,g9,h⟩:=j5 h
    obtain ⟨r15_0,r15_1,r15_2,⟨r15_3,r15_4,r15_5,r15_6⟩,r15_7,r15_8,r15_9⟩:=r15
    refine oV (hΦ.E5 g9) ?_
    refine oB 6 rfl (p8 ?_)
    refine O9 [512,320,320] rfl ?_
    refine oC rfl rfl (oC rfl rfl (oC rfl rfl (oC rfl rfl (oC rfl rfl (H8 rfl ?_)))))
    refine oD ?_
    refine A8 (oC rfl rfl (oC rfl rfl ?_))
    rcases Bool.eq_false_or_eq_true r16 with g10 | g10
    ·replace h:=U3 h g10
     refine H8 rfl ?_
     refine D7 (congrArg some g10) rfl rfl ?_
     refine A8 (H8 rfl ?_)
     obtain ⟨⟨r19,at20⟩,g11,h⟩:=j5 h
     refine a7b (congrArg some g10) rfl rfl (a4W rfl rfl (u6 g11) rfl rfl rfl) ?_
     refine A8 (H8 rfl ?_)
     refine b26 rfl rfl rfl g10 rfl ?_
     refine A8 (oC rfl rfl (oC rfl rfl ?_))
     refine Y0 ?_
     refine ⟨rfl,?_⟩
     cases h
     exact o5 ⟨_,_,_,rfl,rfl,rfl⟩
    ·replace h:=U4 h g10
     refine a5q (congrArg some g10) ?_
     refine a5q (congrArg some g10) ?_
     refine H8 rfl ?_
     refine b2O rfl rfl rfl g10 rfl ?_
     refine A8 (oC rfl rfl (oC rfl rfl ?_))
     refine Y0 ?_
     refine ⟨rfl,?_⟩
     cases h
     exact o5 ⟨_,_,_,rfl,rfl,rfl⟩
theorem a9K (n:Nat) {Φ:d9} (hΦ:Φ.Ok) {l1:List Tok} {p9:Int} {at3:Int} {j6:Int} {r:Nod × Bool × Int × Int} (h:a2q n Φ l1 p9 at3 j6 = some r) :
  E env (.call 261 [.ptr 0 0]) (hR q9 l1 p9 at3 j6) = some (a4b l1 p9 at3 j6 r):=by
 unfold a2q at h
 refine F4 rfl Tryz.func261 rfl rfl ?_
 refine eSG (oB 2 rfl (eSG (oA 1 rfl ?_)))
 obtain ⟨r5,g1,h⟩:=j5 h
 refine oV (K4 g1) ?_
 refine oD ?_
 refine oB 2 rfl (eSG (oA 1 rfl ?_))
 obtain ⟨⟨r6,r7,at8⟩,g2,h⟩:=j5 h
 obtain ⟨r6_0,r6_1,r6_2,r6_3⟩:=r6
 refine oV (b0Y g2) ?_
 refine oB 6 rfl ?_
 obtain ⟨y3,g4,h⟩:=O4 h
 refine Q6 (KR:=fun r=>a2s env 261 1 Tryz.f261.results.toList (a4b l1 p9 at3 j6 r)) y3 (fun z18=>[(2,.ptr 1 0),(4,.ptr 2 0)]) (fun z18=>[(0,.row [.sl q9 l1,.i p9,.i z18,.i j6]),(1,.row [.i 0,.str [],.i 0,.i 0,.str [],.i 0,.st 3 l6 ([]:List Typ),.st 4 l6 ([]:List Typ),.st 5 A9 ([]:List Nod),.i 0]),(2,.row [.i 0,.str [],.i 0,.i 0,.str [],.i 0,.st 6 l6 ([]:List Typ),.st 7 l6 ([]:List Typ),.st 8 A9 ([]:List Nod),.i r5]),(3,.tip 0 0),(4,.tip 0 0),(5,.tip 0 0),(6,.tip 0 0),(7,.tip 0 0),(8,.tip 0 0)]) rfl ?_ (fun z18 hx=>?_) (fun r res hz hr hn=>?_)
 ·replace h:=g4
  clear g4
  refine C9 ?_
  refine P7 rfl ?_
  revert y3
  refine X8 (fun m (x:Int × Typ)=>W9 n Φ p9 l1 j6 r5 r7 m x.1 x.2) (fun x=>[(0,.ptr 0 0),(2,.ptr 1 0),(4,.ptr 2 0),(5,.ptr 3 0),(6,.bool r7)]) (fun x=>[(0,.row [.sl q9 l1,.i p9,.i x.1,.i j6]),(1,.row [.i 0,.str [],.i 0,.i 0,.str [],.i 0,.st 4 l6 ([]:List Typ),.st 5 l6 ([]:List Typ),.st 6 A9 ([]:List Nod),.i 0]),(2,.row [.i 0,.str [],.i 0,.i 0,.str [],.i 0,.st 7 l6 ([]:List Typ),.st 8 l6 ([]:List Typ),.st 9 A9 ([]:List Nod),.i r5]),(3,.row [.i x.2.kind,.str x.2.name,.i x.2.n,.sl l6 x.2.args]),(4,.tip 0 0),(5,.tip 0 0),(6,.tip 0 0),(7,.tip 0 0),(8,.tip 0 0),(9,.tip 0 0)]) _ (fun _=>rfl) (fun m3 x y ih h=>?_) n (at8,(Typ.mk r6_0 r6_1 r6_2 r6_3))
  obtain ⟨a3S,n519⟩:=x
  obtain ⟨n519_0,n519_1,n519_2,n519_3⟩:=n519
  rw [W9] at h
  refine p8 (eSG (oB 1 rfl ?_))
  refine eI rfl h (fun h=>?_) fun h=>?_
  ·refine o8 ?_
   refine C9 ?_
   refine p8 (eSG (oA 1 rfl ?_))
   obtain ⟨r9,g6,h⟩:=j5 h
   refine oV (M6 g6) ?_
   refine A8 ?_
   refine eI rfl h (fun h=>?_) fun h=>?_
   ·refine eSG (oA 1 rfl ?_)
    obtain ⟨⟨r10,r11,at12,a4R,a5I⟩,g8,h⟩:=j5 h
    refine oV (hΦ.L9 g8) ?_
    refine oB 5 rfl (p8 ?_)
    refine O9 [3] rfl ?_
    refine oC rfl rfl (oC rfl rfl (oC rfl rfl (oC rfl rfl (oC rfl rfl (oC rfl rfl (oC rfl rfl (oC rfl rfl ?_)))))))
    refine Y0 ?_
    refine ⟨rfl,?_⟩
    refine eSG (oB 4 rfl ?_)
    cases h
    exact o5 ⟨_,rfl,_,_,_,rfl,rfl,rfl⟩
   ·refine o8 (p8 (eSG (oA 1 rfl ?_)))
    obtain ⟨⟨r15,at16⟩,g9,h⟩:=j5 h
    refine oV (u6 g9) ?_
    refine oB 1 rfl ?_
    refine eI rfl h (fun h=>?_) fun h=>?_
    ·refine eSG (oB 3 rfl ?_)
     cases h
     exact o5 ⟨_,rfl,_,_,_,rfl,rfl,rfl⟩
    ·refine o8 (p8 (eSG (oA 1 rfl ?_)))
     obtain ⟨⟨r17,r18,at19⟩,g11,h⟩:=j5 h
     refine oV (I9 g11) ?_
     refine oB 5 rfl (eSG (oB 1 rfl ?_))
     refine eI rfl h (fun h=>?_) fun h=>?_
     ·refine eSG (oA 3 rfl ?_)
      refine oD ?_
      refine oB 1 rfl ?_
      refine M4 ?_
      exact ⟨_,_,rfl,ih (_,_) _ h⟩
     ·refine o8 (eSG (oA 1 rfl ?_))
      obtain ⟨⟨r20,r21,at22⟩,g13,h⟩:=j5 h
      refine oV (I9 g13) ?_
      refine oB 5 rfl (p8 (eSG (oB 2 rfl ?_)))
      refine eI rfl h (fun h=>?_) fun h=>?_
      ·refine eSG (oB 3 rfl ?_)
       cases h
       exact o5 ⟨_,rfl,_,_,_,rfl,rfl,rfl⟩
      ·refine o8 (p8 ?_)
       refine O9 [3] rfl ?_
       refine oC rfl rfl (oC rfl rfl (oC rfl rfl (oC rfl rfl (oC rfl rfl (oC rfl rfl (oC rfl rfl (oC rfl rfl ?_)))))))
       refine Y0 ?_
       refine ⟨rfl,?_⟩
       refine p8 (eSG (oA 1 rfl ?_))
       obtain ⟨r23,g15,h⟩:=j5 h
       refine oV (M6 g15) ?_
       refine A8 ?_
       refine eI rfl h (fun h=>?_) fun h=>?_
       ·refine eSG (oA 1 rfl ?_)
        obtain ⟨⟨r24,r25,at26,c0M,gone28⟩,g17,h⟩:=j5 h
        refine oV (hΦ.L9 g17) ?_
        refine oB 5 rfl (eSG (oB 5 rfl (eSG (oB 4 rfl ?_))))
        cases h
        exact o5 ⟨_,rfl,_,_,_,rfl,rfl,rfl⟩
       ·refine o8 (eSG (oB 3 rfl ?_))
        cases h
        exact o5 ⟨_,rfl,_,_,_,rfl,rfl,rfl⟩
  ·refine M4 ?_
   cases h
   exact ⟨_,rfl,rfl⟩
 ·subst hx
  obtain ⟨b48,rfl⟩:∃ q,q = z18:=⟨_,rfl⟩
  refine eSG (oB 3 rfl ?_)
  cases h
  exact o5 ⟨_,_,_,rfl,rfl,rfl⟩
 ·subst hz
  rcases res with ⟨_ | _ | _ | _,_,_⟩ <;> first | exact absurd rfl hn | exact hr.elim | (cases h; exact hr)
theorem d9.ok:∀ n,(d9.fs n).Ok
 | 0=>⟨(fun h=>by cases h),(fun h=>by cases h),(fun h=>by cases h),(fun h=>by cases h),(fun h=>by cases h),(fun h=>by cases h),(fun h=>by cases h),(fun h=>by cases h),(fun h=>by cases h),(fun h=>by cases h),(fun h=>by cases h),(fun h=>by cases h),(fun h=>by cases h),(fun h=>by cases h),(fun h=>by cases h),(fun h=>by cases h)⟩
 | n + 1=>⟨(fun h=>a98 n (d9.ok n) h),(fun h=>a9i n (d9.ok n) h),(fun h=>a8D n (d9.ok n) h),(fun h=>a7L n (d9.ok n) h),(fun h=>a9V n (d9.ok n) h),(fun h=>a9L n (d9.ok n) h),(fun h=>a6c n (d9.ok n) h),(fun h=>a7N n (d9.ok n) h),(fun h=>a6I n (d9.ok n) h),(fun h=>a6Y n (d9.ok n) h),(fun h=>a8z n (d9.ok n) h),(fun h=>a8G n (d9.ok n) h),(fun h=>a6z n (d9.ok n) h),(fun h=>a9n n (d9.ok n) h),(fun h=>a8q n (d9.ok n) h),(fun h=>a9K n (d9.ok n) h)⟩
theorem b0D {n:Nat} {l1:List Tok} {p9:Int} {at3:Int} {j6:Int} {r:Nod × Bool × Int × Int} (h:E5 n l1 p9 at3 j6 = some r) :
  E env (.call 63 [.ptr 0 0]) (hR q9 l1 p9 at3 j6) = some (a4c l1 p9 at3 j6 r):=(d9.ok n).E5 h
end Go.Proofs.YtmonfppdiehlpaaGreatDoor
namespace Go.Proofs.YtmonfppdiehlpaaGreatDoor
open Go Go.Vm
theorem b6c {n:Nat} {a1K:Str} {r:Nod × Flt} (h:a7s n a1K = some r) :
  E env (.call 22 [.str a1K]) [] = some (b5P a1K r):=by
 unfold a7s at h
 refine F4 rfl Tryz.func22 rfl rfl ?_
 refine eSG (oB 2 rfl (eSG (oA 1 rfl ?_)))
 obtain ⟨⟨l2,c3,a4⟩,g1,h⟩:=j5 h
 refine F7 rfl rfl rfl rfl rfl (b8o g1) rfl ?_
 refine oB 6 rfl (p8 (eSG (oB 3 rfl ?_)))
 refine eI rfl h (fun h=>?_) fun h=>?_
 ·refine p8 ?_
  refine O9 [384] rfl ?_
  refine H8 rfl ?_
  refine oD ?_
  refine A8 (oC rfl rfl (oC rfl rfl (oC rfl rfl ?_)))
  refine Y0 ?_
  refine ⟨rfl,?_⟩
  cases h
  exact o5 ⟨_,_,_,rfl,rfl,rfl⟩
 ·refine o8 (eSG (oA 3 rfl ?_))
  refine oD ?_
  refine oB 2 rfl (eSG (oA 1 rfl ?_))
  obtain ⟨⟨r5,r6,at7,a3r⟩,g3,h⟩:=j5 h
  obtain ⟨r5_0,r5_1,r5_2,⟨r5_3,r5_4,r5_5,r5_6⟩,r5_7,r5_8,r5_9⟩:=r5
  refine oV (b0D g3) ?_
  refine oB 6 rfl (p8 ?_)
  obtain ⟨y4,g5,h⟩:=j5 h
  refine Y5 [(2,.ptr 0 0),(3,.ptr 1 0),(4,.sl q9 l2),(6,.ptr 2 0),(7,.ptr 3 0),(8,.bool r6),(39,.bool y4)] [(0,.row [.i 0,.str [],.i 0,.i 0,.str [],.i 0,.st 4 l6 ([]:List Typ),.st 5 l6 ([]:List Typ),.st 6 A9 ([]:List Nod),.i 0]),(1,.row [.i 0,.i 0]),(2,.row [.sl q9 l2,.i (List.length a1K:Int),.i at7,.i a3r]),(3,.row (c0 r5_0 r5_1 r5_2 r5_3 r5_4 r5_5 (.sl l6 r5_6) (.sl l6 r5_7) (.sl A9 r5_8) r5_9)),(4,.tip 0 0),(5,.tip 0 0),(6,.tip 0 0)] rfl ?_ ?_
  ·replace h:=g5
   clear g5
   refine o6 (oA 3 rfl ?_)
   refine D5 rfl rfl rfl (fun g6=>?_) (fun g6=>?_)
   ·replace h:=U3 h g6
    refine oB 6 rfl ?_
    cases h
    exact rfl
   ·replace h:=U4 h g6
    refine oB 6 rfl ?_
    cases h
    exact rfl
  ·obtain ⟨x512,rfl⟩:∃ q,q = y4:=⟨_,rfl⟩
   refine eI rfl h (fun h=>?_) fun h=>?_
   ·refine p8 ?_
    refine O9 [2] rfl ?_
    refine H8 rfl ?_
    refine oD ?_
    refine A8 (oC rfl rfl (oC rfl rfl (oC rfl rfl (oC rfl rfl (H8 rfl ?_)))))
    refine oD ?_
    refine A8 (oC rfl rfl (oC rfl rfl ?_))
    refine Y0 ?_
    refine ⟨rfl,?_⟩
    cases h
    exact o5 ⟨_,_,_,rfl,rfl,rfl⟩
   ·refine o8 (p8 ?_)
    obtain ⟨y8,g9,h⟩:=j5 h
    refine Y5 [(2,.ptr 0 0),(3,.ptr 1 0),(6,.ptr 2 0),(7,.ptr 3 0),(56,.bool y8)] [(0,.row [.i 0,.str [],.i 0,.i 0,.str [],.i 0,.st 4 l6 ([]:List Typ),.st 5 l6 ([]:List Typ),.st 6 A9 ([]:List Nod),.i 0]),(1,.row [.i 0,.i 0]),(2,.row [.sl q9 l2,.i (List.length a1K:Int),.i at7,.i a3r]),(3,.row (c0 r5_0 r5_1 r5_2 r5_3 r5_4 r5_5 (.sl l6 r5_6) (.sl l6 r5_7) (.sl A9 r5_8) r5_9)),(4,.tip 0 0),(5,.tip 0 0),(6,.tip 0 0)] rfl ?_ ?_
    ·replace h:=g9
     clear g9
     refine o6 (oA 3 rfl ?_)
     refine D5 rfl rfl rfl (fun g10=>?_) (fun g10=>?_)
     ·replace h:=U3 h g10
      refine oB 8 rfl ?_
      cases h
      exact rfl
     ·replace h:=U4 h g10
      refine oB 8 rfl ?_
      cases h
      exact rfl
    ·obtain ⟨x513,rfl⟩:∃ q,q = y8:=⟨_,rfl⟩
     refine eI rfl h (fun h=>?_) fun h=>?_
     ·refine eSG ?_
      refine oD ?_
      refine oA 1 rfl ?_
      obtain ⟨r9,g12,h⟩:=j5 h
      refine oV (K4 g12) ?_
      refine oD ?_
      refine oB 2 rfl ?_
      cases h
      exact o5 ⟨_,_,_,rfl,rfl,rfl⟩
     ·refine o8 (eSG (oA 1 rfl ?_))
      obtain ⟨⟨r10,r11⟩,g13,h⟩:=j5 h
      refine F7 rfl rfl rfl rfl rfl (b6a g13) rfl ?_
      refine oB 5 rfl (p8 (eSG (oB 2 rfl ?_)))
      refine eI rfl h (fun h=>?_) fun h=>?_
      ·refine eSG ?_
       refine oD ?_
       refine oD ?_
       refine oB 2 rfl ?_
       cases h
       exact o5 ⟨_,_,_,rfl,rfl,rfl⟩
      ·refine o8 (p8 (eSG (oB 2 rfl ?_)))
       refine eI rfl h (fun h=>?_) fun h=>?_
       ·refine eSG ?_
        refine oD ?_
        refine oD ?_
        refine oB 2 rfl ?_
        cases h
        exact o5 ⟨_,_,_,rfl,rfl,rfl⟩
       ·refine o8 (eSG (oA 1 rfl ?_))
        refine oD ?_
        refine oB 2 rfl ?_
        cases h
        exact o5 ⟨_,_,_,rfl,rfl,rfl⟩
structure Y7.Ok (Φ:Y7):Prop where
 a2V:∀ {n1:Nod} {r:Int × Int},Φ.a2V n1 = some r -> E env (.call 31 [.agg (c0 n1.op n1.s n1.n n1.t.kind n1.t.name n1.t.n (.sl l6 n1.t.args) (.sl l6 n1.ts) (.sl A9 n1.l) n1.at_)]) [] = some (a7B n1 r)
theorem b4f (n:Nat) {Φ:Y7} (hΦ:Φ.Ok) {n1:Nod} {r:Int × Int} (h:a5s n Φ n1 = some r) :
  E env (.call 31 [.agg (c0 n1.op n1.s n1.n n1.t.kind n1.t.name n1.t.n (.sl l6 n1.t.args) (.sl l6 n1.ts) (.sl A9 n1.l) n1.at_)]) [] = some (a7B n1 r):=by
 unfold a5s at h
 obtain ⟨n1_0,n1_1,n1_2,⟨n1_3,n1_4,n1_5,n1_6⟩,n1_7,n1_8,n1_9⟩:=n1
 refine F4 rfl Tryz.func31 rfl rfl ?_
 refine eSG (oB 3 rfl (eSG (oB 1 rfl ?_)))
 obtain ⟨y1,g2,h⟩:=j5 h
 refine Y5 [(2,.i y1.1),(3,.i y1.2)] [] rfl ?_ ?_
 ·replace h:=g2
  clear g2
  refine eSG (oB 4 rfl ?_)
  refine C9 ?_
  refine P7 rfl ?_
  revert y1
  refine X8 (fun m (x:Int × Int × Int)=>a2L n Φ (Nod.mk n1_0 n1_1 n1_2 (Typ.mk n1_3 n1_4 n1_5 n1_6) n1_7 n1_8 n1_9) m x.1 x.2.1 x.2.2) (fun x=>[(2,.i x.1),(3,.i x.2.1),(9,.sl A9 n1_8),(10,.i (List.length n1_8:Int)),(11,.i x.2.2)]) (fun x=>[]) _ (fun _=>rfl) (fun m3 x y ih h=>?_) n (1,0,0)
  obtain ⟨a5D,b2r,x503⟩:=x
  replace h:a2L n Φ (Nod.mk n1_0 n1_1 n1_2 (Typ.mk n1_3 n1_4 n1_5 n1_6) n1_7 n1_8 n1_9) (m3 + 1) a5D b2r x503 = some y:=h
  rw [a2L] at h
  refine eSG (oB 1 rfl (p8 ?_))
  refine eI rfl h (fun h=>?_) fun h=>?_
  ·refine o8 (p8 ?_)
   refine C9 ?_
   refine eSG ?_
   obtain ⟨x2,g4,h⟩:=j5 h
   obtain ⟨x2_0,x2_1,x2_2,⟨x2_3,x2_4,x2_5,x2_6⟩,x2_7,x2_8,x2_9⟩:=x2
   refine a1u Z7 g4 rfl rfl rfl rfl rfl rfl rfl rfl ?_
   refine a4m (c:=(c0 x2_0 x2_1 x2_2 x2_3 x2_4 x2_5 (.sl l6 x2_6) (.sl l6 x2_7) (.sl A9 x2_8) x2_9)) rfl rfl rfl rfl rfl rfl rfl ?_
   refine oB 2 rfl (eSG (oA 1 rfl ?_))
   obtain ⟨⟨r3,r4⟩,g5,h⟩:=j5 h
   refine F7 rfl rfl rfl rfl rfl (hΦ.a2V g5) rfl ?_
   refine oB 5 rfl (eSG (oB 4 rfl (o6 (oB 4 rfl (o6 (oB 2 rfl ?_))))))
   exact ⟨_,_,rfl,ih (_,_,_) _ h⟩
  ·refine M4 ?_
   cases h
   exact rfl
 ·obtain ⟨b0T,b87⟩:=y1
  refine eSG (oB 5 rfl ?_)
  cases h
  exact o5 ⟨_,_,_,rfl,rfl,rfl⟩
theorem Y7.ok:∀ n,(Y7.fs n).Ok
 | 0=>⟨(fun h=>by cases h)⟩
 | n + 1=>⟨(fun h=>b4f n (Y7.ok n) h)⟩
theorem b6b {n:Nat} {n1:Nod} {r:Int × Int} (h:a2V n n1 = some r) :
  E env (.call 31 [.agg (c0 n1.op n1.s n1.n n1.t.kind n1.t.name n1.t.n (.sl l6 n1.t.args) (.sl l6 n1.ts) (.sl A9 n1.l) n1.at_)]) [] = some (a7B n1 r):=(Y7.ok n).a2V h
theorem b5f {a1K:Str} {r:Flt × List Tok} (h:a8d a1K = some r) :
  E env (.call 39 [.str a1K]) [] = some (b4j a1K r):=by
 unfold a8d at h
 refine F4 rfl Tryz.func39 rfl rfl ?_
 refine eSG (oB 2 rfl (eSG (oA 1 rfl ?_)))
 obtain ⟨⟨l2,c3,a4⟩,g1,h⟩:=j5 h
 refine F7 rfl rfl rfl rfl rfl (b9L g1) rfl ?_
 refine oB 6 rfl (p8 ?_)
 refine O9 [384] rfl ?_
 refine oC rfl rfl (oC rfl rfl (oC rfl rfl (H8 rfl ?_)))
 refine oD ?_
 refine A8 (oC rfl rfl (oC rfl rfl (oC rfl rfl (oC rfl rfl ?_))))
 refine Y0 ?_
 refine ⟨rfl,?_⟩
 cases h
 exact o5 ⟨_,_,_,rfl,rfl,rfl⟩
theorem I5 {n1:Int} {b6s:Int} {b4Q:Str} {a7Z:List Tok} {at5:Int} {b6T:Int} {r:Bool} (h:D6 n1 b6s b4Q a7Z at5 b6T = some r) :
  E env (.call 83 [.ptr 0 0,.i n1,.i b6s,.str b4Q]) (hP q9 a7Z at5 b6T) = some (b1F n1 b6s b4Q a7Z at5 b6T r):=by
 unfold D6 at h
 refine F4 rfl Tryz.func83 rfl rfl ?_
 refine eSG (oB 1 rfl (p8 (eSG (oB 12 rfl ?_))))
 refine eI rfl h (fun h=>?_) fun h=>?_
 ·refine eSG (oB 1 rfl ?_)
  cases h
  exact o5 ⟨_,_,_,rfl,rfl,rfl⟩
 ·refine o8 (p8 ?_)
  refine O9 [0,0] rfl ?_
  refine oC rfl rfl (oC rfl rfl (oC rfl rfl (oC rfl rfl (oC rfl rfl (oC rfl rfl (oC rfl rfl (oC rfl rfl (oC rfl rfl (oC rfl rfl (H8 rfl ?_))))))))))
  obtain ⟨x7,g2,h⟩:=j5 h
  refine a1u a5x g2 rfl rfl rfl rfl rfl rfl rfl rfl ?_
  refine A8 (H8 rfl ?_)
  refine a4m (c:=[.i x7.kind,.str x7.text,.i x7.at_,.i x7.len]) rfl rfl rfl rfl rfl rfl rfl ?_
  refine A8 (oC rfl rfl (oC rfl rfl ?_))
  refine Y0 ?_
  refine ⟨rfl,?_⟩
  refine eSG (oA 5 rfl ?_)
  refine D5 rfl rfl rfl (fun g3=>?_) (fun g3=>?_)
  ·replace h:=U3 h g3
   refine oA 3 rfl ?_
   refine D5 rfl rfl rfl (fun g4=>?_) (fun g4=>?_)
   ·replace h:=U3 h g4
    refine oB 7 rfl ?_
    cases h
    exact o5 ⟨_,_,_,rfl,rfl,rfl⟩
   ·replace h:=U4 h g4
    refine oB 7 rfl ?_
    cases h
    exact o5 ⟨_,_,_,rfl,rfl,rfl⟩
  ·replace h:=U4 h g3
   refine oB 10 rfl ?_
   cases h
   exact o5 ⟨_,_,_,rfl,rfl,rfl⟩
theorem F6 {a8X:Str} {E8:List Tok} {at3:Int} {K3:Int} {r:Bool × Int} (h:D9 a8X E8 at3 K3 = some r) :
  E env (.call 145 [.ptr 0 0,.str a8X]) (hP q9 E8 at3 K3) = some (b0x a8X E8 at3 K3 r):=by
 unfold D9 at h
 refine F4 rfl Tryz.func145 rfl rfl ?_
 refine eSG (oB 1 rfl (p8 (eSG (oA 2 rfl ?_))))
 obtain ⟨r5,g1,h⟩:=j5 h
 refine oV (I5 g1) ?_
 refine oB 1 rfl ?_
 refine eI rfl h (fun h=>?_) fun h=>?_
 ·refine eSG (oB 1 rfl ?_)
  cases h
  exact o5 ⟨_,_,_,rfl,rfl,rfl⟩
 ·refine o8 (eSG (oB 8 rfl (eSG (oB 1 rfl ?_))))
  cases h
  exact o5 ⟨_,_,_,rfl,rfl,rfl⟩
theorem a6q {j4:List Tok} {at2:Int} {l5:Int} {r:Int} (h:a1w j4 at2 l5 = some r) :
  E env (.call 40 [.ptr 0 0]) (hP q9 j4 at2 l5) = some (b0l j4 at2 l5 r):=by
 unfold a1w at h
 refine F4 rfl Tryz.func40 rfl rfl ?_
 refine eSG (oB 1 rfl (p8 (eSG (oB 10 rfl ?_))))
 refine eI rfl h (fun h=>?_) fun h=>?_
 ·refine eSG (oA 8 rfl ?_)
  obtain ⟨x4,g2,h⟩:=j5 h
  refine a1u a5x g2 rfl rfl rfl rfl rfl rfl rfl rfl ?_
  refine oB 3 rfl ?_
  cases h
  exact o5 ⟨_,_,_,rfl,rfl,rfl⟩
 ·refine o8 (eSG (oB 5 rfl ?_))
  cases h
  exact o5 ⟨_,_,_,rfl,rfl,rfl⟩
theorem a3f {j4:List Tok} {at2:Int} {l5:Int} {r:Rs Empty Int} (h:Y9 j4 at2 l5 = some r) :
  E env (.call 77 [.ptr 0 0]) (hP q9 j4 at2 l5) = some (b0m j4 at2 l5 r):=by
 unfold Y9 at h
 refine F4 rfl Tryz.func77 rfl rfl ?_
 refine o6 (oA 1 rfl ?_)
 obtain ⟨r4,g1,h⟩:=j5 h
 refine a7b rfl rfl rfl (b2V rfl rfl rfl (a6q g1) rfl rfl rfl) ?_
 refine oD ?_
 refine oD ?_
 refine oA 1 rfl ?_
 refine b8m rfl rfl rfl ?_
 cases h
 exact ⟨_,_,rfl,rfl⟩
theorem K9 {a2h:Int} {E8:List Tok} {at3:Int} {K3:Int} {r:Rs Tok Int} (h:M7 a2h E8 at3 K3 = some r) :
  E env (.call 153 [.ptr 0 0,.i a2h]) (hP q9 E8 at3 K3) = some (a9C a2h E8 at3 K3 r):=by
 unfold M7 at h
 refine F4 rfl Tryz.func153 rfl rfl ?_
 refine eSG (oB 1 rfl (p8 (eSG (oA 2 rfl ?_))))
 obtain ⟨r5,g1,h⟩:=j5 h
 refine oV (I5 g1) ?_
 refine oB 1 rfl ?_
 refine eI rfl h (fun h=>?_) fun h=>?_
 ·refine o6 (oA 1 rfl ?_)
  rcases w9 h with ⟨x,_,_⟩ | ⟨at6,g3,h⟩
  ·exact x.elim
  ·refine oW (a3f g3) ?_
   cases h
   exact ⟨_,_,rfl,rfl⟩
 ·refine o8 (p8 ?_)
  refine O9 [0,0] rfl ?_
  refine oC rfl rfl (oC rfl rfl (oC rfl rfl (oC rfl rfl (oC rfl rfl (oC rfl rfl (oC rfl rfl (oC rfl rfl (H8 rfl ?_))))))))
  obtain ⟨x7,g4,h⟩:=j5 h
  refine a1u a5x g4 rfl rfl rfl rfl rfl rfl rfl rfl ?_
  refine A8 (H8 rfl ?_)
  refine a4m (c:=[.i x7.kind,.str x7.text,.i x7.at_,.i x7.len]) rfl rfl rfl rfl rfl rfl rfl ?_
  refine A8 (oC rfl rfl (oC rfl rfl ?_))
  refine Y0 ?_
  refine ⟨rfl,?_⟩
  refine eSG (oB 8 rfl (eSG (oB 2 rfl ?_)))
  cases h
  exact o5 ⟨_,_,_,rfl,rfl,rfl⟩
theorem H7 {j4:List Tok} {at2:Int} {l5:Int} {r:Rs Str Int} (h:N8 j4 at2 l5 = some r) :
  E env (.call 154 [.ptr 0 0]) (hP q9 j4 at2 l5) = some (b0o j4 at2 l5 r):=by
 unfold N8 at h
 refine F4 rfl Tryz.func154 rfl rfl ?_
 refine eSG (oB 1 rfl (eSG (oA 1 rfl ?_)))
 rcases w9 h with ⟨r4,g1,h⟩ | ⟨at5,g2,h⟩
 ·refine oV (K9 g1) ?_
  refine oB 2 rfl ?_
  cases h
  exact o5 ⟨_,_,_,rfl,rfl,rfl⟩
 ·refine oW (K9 g2) ?_
  cases h
  exact ⟨_,_,rfl,rfl⟩
theorem u7 {a8X:Str} {E8:List Tok} {at3:Int} {K3:Int} {r:Rs Int (Int × Int)} (h:F3 a8X E8 at3 K3 = some r) :
  E env (.call 147 [.ptr 0 0,.str a8X]) (hP q9 E8 at3 K3) = some (b0k a8X E8 at3 K3 r):=by
 unfold F3 at h
 refine F4 rfl Tryz.func147 rfl rfl ?_
 refine eSG (oA 2 rfl ?_)
 obtain ⟨⟨r5,at6⟩,g1,h⟩:=j5 h
 refine oV (F6 g1) ?_
 refine oB 1 rfl ?_
 refine eI rfl h (fun h=>?_) fun h=>?_
 ·refine o6 (oA 1 rfl ?_)
  rcases w9 h with ⟨x,_,_⟩ | ⟨at7,g3,h⟩
  ·exact x.elim
  ·refine oW (a3f g3) ?_
   cases h
   exact ⟨_,_,rfl,rfl⟩
 ·refine o8 ?_
  cases h
  exact ⟨_,_,_,rfl,rfl,rfl⟩
theorem b47 {a6M:Str} {Z8:List Typ} {r:Typ} (h:a5j a6M Z8 = some r) :
  E env (.call 198 [.str a6M,.sl l6 Z8]) [] = some (b0g a6M Z8 r):=by
 unfold a5j at h
 refine F4 rfl Tryz.func198 rfl rfl ?_
 refine eSG (oB 1 rfl (eSG (oB 1 rfl ?_)))
 obtain ⟨y1,g2,h⟩:=O4 h
 refine Q6 (KR:=fun r=>a2s env 198 0 Tryz.f198.results.toList (b0g a6M Z8 r)) y1 (fun z17=>[(0,.str a6M),(1,.sl l6 Z8),(4,.ptr 0 0),(5,.i z17)]) (fun z17=>[(0,.row [.i 0,.str [],.i 0,.st 1 l6 ([]:List Typ)]),(1,.tip 0 0)]) rfl ?_ (fun z17 hx=>?_) (fun r res hz hr hn=>?_)
 ·replace h:=g2
  clear g2
  refine C9 ?_
  obtain ⟨y3,g4,h⟩:=j5 h
  refine Y5 [(0,.str a6M),(1,.sl l6 Z8),(4,.ptr 0 0),(5,.i 6),(6,.bool y3)] [(0,.row [.i 0,.str [],.i 0,.st 1 l6 ([]:List Typ)]),(1,.tip 0 0)] rfl ?_ ?_
  ·replace h:=g4
   clear g4
   refine o6 (oA 4 rfl ?_)
   refine D5 rfl rfl rfl (fun g5=>?_) (fun g5=>?_)
   ·replace h:=U3 h g5
    refine oB 4 rfl ?_
    cases h
    exact rfl
   ·replace h:=U4 h g5
    refine oB 4 rfl ?_
    cases h
    exact rfl
  ·obtain ⟨x505,rfl⟩:∃ q,q = y3:=⟨_,rfl⟩
   refine eI rfl h (fun h=>?_) fun h=>?_
   ·refine eSG (oA 1 rfl ?_)
    refine oD ?_
    refine oB 1 rfl ?_
    cases h
    exact o5 ⟨_,rfl,_,_,_,rfl,rfl,rfl⟩
   ·obtain ⟨y7,g8,h⟩:=j5 h
    refine Y5 [(0,.str a6M),(1,.sl l6 Z8),(4,.ptr 0 0),(5,.i 6),(16,.bool y7)] [(0,.row [.i 0,.str [],.i 0,.st 1 l6 ([]:List Typ)]),(1,.tip 0 0)] rfl ?_ ?_
    ·replace h:=g8
     clear g8
     refine o6 (oA 4 rfl ?_)
     refine D5 rfl rfl rfl (fun g9=>?_) (fun g9=>?_)
     ·replace h:=U3 h g9
      refine oB 4 rfl ?_
      cases h
      exact rfl
     ·replace h:=U4 h g9
      refine oB 4 rfl ?_
      cases h
      exact rfl
    ·obtain ⟨x503,rfl⟩:∃ q,q = y7:=⟨_,rfl⟩
     refine eI rfl h (fun h=>?_) fun h=>?_
     ·refine eSG (oA 1 rfl ?_)
      refine oD ?_
      refine oB 1 rfl ?_
      cases h
      exact o5 ⟨_,rfl,_,_,_,rfl,rfl,rfl⟩
     ·refine eSG (oB 4 rfl ?_)
      refine eI rfl h (fun h=>?_) fun h=>?_
      ·refine o8 ?_
       cases h
       exact ⟨_,rfl,rfl⟩
      ·refine eSG (oB 3 rfl ?_)
       refine eI rfl h (fun h=>?_) fun h=>?_
       ·refine o6 (oB 1 rfl ?_)
        cases h
        exact ⟨_,rfl,rfl⟩
       ·refine eSG (oB 3 rfl ?_)
        refine eI rfl h (fun h=>?_) fun h=>?_
        ·refine o6 (oB 1 rfl ?_)
         cases h
         exact ⟨_,rfl,rfl⟩
        ·refine eSG (oB 3 rfl ?_)
         refine eI rfl h (fun h=>?_) fun h=>?_
         ·refine o6 (oB 1 rfl ?_)
          cases h
          exact ⟨_,rfl,rfl⟩
         ·refine eSG (oB 3 rfl ?_)
          refine eI rfl h (fun h=>?_) fun h=>?_
          ·refine o6 (oB 1 rfl ?_)
           cases h
           exact ⟨_,rfl,rfl⟩
          ·refine o8 ?_
           cases h
           exact ⟨_,rfl,rfl⟩
 ·subst hx
  obtain ⟨b4K,rfl⟩:∃ q,q = z17:=⟨_,rfl⟩
  refine p8 (eSG (oB 2 rfl ?_))
  refine eI rfl h (fun h=>?_) fun h=>?_
  ·refine eSG (oA 1 rfl ?_)
   refine oD ?_
   refine oB 1 rfl ?_
   cases h
   exact o5 ⟨_,_,_,rfl,rfl,rfl⟩
  ·refine o8 (eSG (oA 3 rfl ?_))
   refine oD ?_
   refine oB 1 rfl ?_
   cases h
   exact o5 ⟨_,_,_,rfl,rfl,rfl⟩
 ·subst hz
  rcases res with ⟨_ | _ | _ | _,_,_⟩ <;> first | exact absurd rfl hn | exact hr.elim | (cases h; exact hr)
theorem U1 {a8K:Str} {E8:List Tok} {at3:Int} {K3:Int} {r:Bool × Int} (h:J5 a8K E8 at3 K3 = some r) :
  E env (.call 88 [.ptr 0 0,.str a8K]) (hP q9 E8 at3 K3) = some (b05 a8K E8 at3 K3 r):=by
 unfold J5 at h
 refine F4 rfl Tryz.func88 rfl rfl ?_
 refine eSG (oB 1 rfl (p8 (eSG (oA 2 rfl ?_))))
 obtain ⟨r5,g1,h⟩:=j5 h
 refine oV (I5 g1) ?_
 refine oB 1 rfl ?_
 refine eI rfl h (fun h=>?_) fun h=>?_
 ·refine eSG (oB 1 rfl ?_)
  cases h
  exact o5 ⟨_,_,_,rfl,rfl,rfl⟩
 ·refine o8 (eSG (oB 8 rfl (eSG (oB 1 rfl ?_))))
  cases h
  exact o5 ⟨_,_,_,rfl,rfl,rfl⟩
theorem a0H {j4:List Tok} {at2:Int} {l5:Int} {r:Rs Str Int} (h:Z4 j4 at2 l5 = some r) :
  E env (.call 89 [.ptr 0 0]) (hP q9 j4 at2 l5) = some (a8n j4 at2 l5 r):=by
 unfold Z4 at h
 refine F4 rfl Tryz.func89 rfl rfl ?_
 refine eSG (oB 1 rfl (eSG (oA 1 rfl ?_)))
 rcases w9 h with ⟨r4,g1,h⟩ | ⟨at5,g2,h⟩
 ·refine oV (K9 g1) ?_
  refine oB 2 rfl ?_
  cases h
  exact o5 ⟨_,_,_,rfl,rfl,rfl⟩
 ·refine oW (K9 g2) ?_
  cases h
  exact ⟨_,_,rfl,rfl⟩
end Go.Proofs.YtmonfppdiehlpaaGreatDoor
