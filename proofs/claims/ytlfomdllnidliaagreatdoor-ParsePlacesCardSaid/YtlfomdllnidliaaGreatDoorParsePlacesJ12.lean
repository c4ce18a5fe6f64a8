/- What the functions under ParsePlaces compute, step by step, as functions in Lean: texts that were built one by one, joined. -/
import Derived.Test.YtlfomdllnidliaaGreatDoorParsePlacesJ11
import Derived.KernelRfl
import Derived.Test.YtlfomdllnidliaaGreatDoorProg
import Derived.Tactics
import Derived.Tactics2
import Derived.Defers
import Derived.Recover
import Derived.Laws.Pointers
import Derived.BigCall
import Derived.BigGuard
set_option maxRecDepth 100000
set_option maxHeartbeats 20000000
set_option linter.unusedSimpArgs false
set_option linter.unusedVariables false
set_option linter.unusedSectionVars false
namespace Go.Proofs.YtlfomdllnidliaaGreatDoor
open Go Go.Vm
theorem bl_sp {l:List Tok} {size:Int} (D:Tk l):∀ n:Nat,BlSp l size (j5.fs n)
 | 0=>by constructor <;> (intro _ _ _ _; intros; exact a07)
 | n + 1=>by
  have S:=bl_sp (size:=size) D n
  have G3:=fun (op:Int) (x:Nod) (tb:List J4)=>grpC3 (size:=size) D (n:=n) S (op:=op) (x:=x) (tb:=tb)
  have G4:=fun (op:Int) (x:Nod) (tb:List J4)=>grpC4 (size:=size) D (n:=n) S (op:=op) (x:=x) (tb:=tb)
  have G5:=fun (op:Int) (x:Nod) (tb:List J4)=>grpC5 (size:=size) D (n:=n) S (op:=op) (x:=x) (tb:=tb)
  exact ⟨(G3 0 ⟨0,[],0,⟨0,[],0,[]⟩,[],[],0⟩ []).1,(G3 0 ⟨0,[],0,⟨0,[],0,[]⟩,[],[],0⟩ []).2.1,(G3 0 ⟨0,[],0,⟨0,[],0,[]⟩,[],[],0⟩ []).2.2.1,(G3 0 ⟨0,[],0,⟨0,[],0,[]⟩,[],[],0⟩ []).2.2.2,(G4 0 ⟨0,[],0,⟨0,[],0,[]⟩,[],[],0⟩ []).1,(G4 0 ⟨0,[],0,⟨0,[],0,[]⟩,[],[],0⟩ []).2.1,(G4 0 ⟨0,[],0,⟨0,[],0,[]⟩,[],[],0⟩ []).2.2.1,(G4 0 ⟨0,[],0,⟨0,[],0,[]⟩,[],[],0⟩ []).2.2.2.1,(G4 0 ⟨0,[],0,⟨0,[],0,[]⟩,[],[],0⟩ []).2.2.2.2,(G5 0 ⟨0,[],0,⟨0,[],0,[]⟩,[],[],0⟩ []).1,(G5 0 ⟨0,[],0,⟨0,[],0,[]⟩,[],[],0⟩ []).2.1,(G5 0 ⟨0,[],0,⟨0,[],0,[]⟩,[],[],0⟩ []).2.2.1,(G5 0 ⟨0,[],0,⟨0,[],0,[]⟩,[],[],0⟩ []).2.2.2.1,fun x tb=>(G5 0 x tb).2.2.2.2.1,fun op=>(G5 op ⟨0,[],0,⟨0,[],0,[]⟩,[],[],0⟩ []).2.2.2.2.2⟩
theorem block_s {l:List Tok} {size:Int} (D:Tk l) {n:Nat}:∀ k0:Int,SN l size k0 (F8 n l k0 size):=(bl_sp D n).s_block
theorem grpD {l:List Tok} {size:Int} (D:Tk l) {n:Nat} :
  (∀ k0:Int,SN l size k0 (Z8 n l k0 size)) /\
  (∀ m:Nat,LB l size (U7 n size l m)) /\
  (∀ m:Nat,LB l size (S9 n size l m)) /\
  (∀ k0:Int,SN l size k0 (a02 n l k0 size)) /\
  (∀ m:Nat,LA l size (U8 n size l m)) /\
  (∀ k0:Int,SL l size k0 (X9 n l k0 size)) /\
  (∀ (m:Nat) (xs:List Nod) (a:Int) (K:_ -> Prop),(∀ q v ts,a <= q -> q <= l.length -> K (.brk (xs,q,v,ts))) -> (∀ y,K (.out (.pan y))) -> ∀ (v:Int) (ts:List Typ),0 <= a -> a <= l.length -> Wp (U5 n size l m xs a v ts) K) /\
  (∀ m:Nat,LA l size (Q5 n size l m)) /\
  (∀ k0:Int,SL l size k0 (a0Q n l k0 size)) /\
  (∀ k0:Int,SN l size k0 (U6 n l k0 size)):=by
 obtain ⟨bounds_l,bounds_s,gens_l,gens_s⟩:=grpA D (n:=n) (size:=size)
 obtain ⟨where_l,where_s,params_l,params_s,result_s,sign_s,proto_l5,proto_l12,proto_s,place_l,place_s⟩:=grpB D (n:=n) (size:=size)
 have func_s:∀ k0:Int,SN l size k0 (Z8 n l k0 size):=?_
 have ext_l8:∀ m:Nat,LB l size (U7 n size l m):=?_
 have ext_l16:∀ m:Nat,LB l size (S9 n size l m):=?_
 have ext_s:∀ k0:Int,SN l size k0 (a02 n l k0 size):=?_
 have fields_l:∀ m:Nat,LA l size (U8 n size l m):=?_
 have fields_s:∀ k0:Int,SL l size k0 (X9 n l k0 size):=?_
 have cases_l11:∀ (m:Nat) (xs:List Nod) (a:Int) (K:_ -> Prop),(∀ q v ts,a <= q -> q <= l.length -> K (.brk (xs,q,v,ts))) -> (∀ y,K (.out (.pan y))) -> ∀ (v:Int) (ts:List Typ),0 <= a -> a <= l.length -> Wp (U5 n size l m xs a v ts) K:=?_
 have cases_l3:∀ m:Nat,LA l size (Q5 n size l m):=?_
 have cases_s:∀ k0:Int,SL l size k0 (a0Q n l k0 size):=?_
 have decl_s:∀ k0:Int,SN l size k0 (U6 n l k0 size):=?_
 exact ⟨func_s,ext_l8,ext_l16,ext_s,fields_l,fields_s,cases_l11,cases_l3,cases_s,decl_s⟩
 all_goals try (intro (m:Nat); induction m with
  | zero=>intro _ _ _ _; intros; exact a07
  | succ m ih=>?_)
 all_goals try intro (xs:List Nod)
 all_goals
  intro k0 K g e
  try intro (a:Int)
  intros
  try have hw:=w1 D (a:=a) (by omega) (by omega)
  first | unfold Z8 | rw [U7.eq_2] | rw [S9.eq_2] | unfold a02 | rw [U8.eq_2] | unfold X9 | rw [U5.eq_2] | rw [Q5.eq_2] | unfold a0Q | unfold U6
 all_goals
  repeat' first
   | (with_reducible first
   | apply a4R | apply a07 | apply a2d | apply a4X | apply a4Y | apply wp_bind | apply b1y | apply b1x | apply b1h | apply a99 | apply a6d | apply a3a | apply a3S | apply a8G | apply a0s | apply a8B | apply a8A | apply a6f | apply a7g D | apply a8u D | apply b24 D | apply b1p D | apply a7C D | apply b0y D | apply a8I D | apply a3T D | apply a3P D | apply a8t D | apply a3R D | apply a4F D | apply b3O D | apply b0E D | apply b6S D | apply block_s D | apply bounds_s | apply gens_s | apply where_s | apply params_s | apply result_s | apply sign_s | apply proto_s | apply place_s | apply func_s | apply ext_l8 _ k0 | apply ext_l16 _ k0 | apply ext_s | apply fields_l _ k0 | apply fields_s | apply cases_l11 _ | apply cases_l3 _ k0 | apply cases_s | apply decl_s | apply g | apply e | apply ih k0 | apply ih)
   | with_reducible refine a8J hword ?_ ?_
   | with_reducible apply a8K
   | with_reducible apply b1z
   | dsimp only [PK,LK,QK,Bool.not_true,Bool.not_false]
   | assumption
   | omega
   | exact .inl rfl
   | exact .inr ⟨by assumption,by assumption⟩
   | with_reducible refine a5o (by assumption) ?_ ?_ ?_
   | with_reducible refine a5o rfl ?_ ?_ ?_
   | with_reducible refine b1q (by assumption) ?_ ?_ ?_
   | with_reducible refine PN.up (by assumption) ?_ ?_
   | with_reducible refine PL.up (by assumption) ?_ ?_
   | (intro _)
end Go.Proofs.YtlfomdllnidliaaGreatDoor
namespace Go.Proofs.YtlfomdllnidliaaGreatDoor
open Go Go.Vm
theorem idxS_ok {s:Str} {i:Nat} (h:i < s.length):idxS s (i:Int) = some ((s[i]).toNat:Int):=by
 have h1:inR (i:Int) s.length = true:=by simp [inR,h]
 simp [idxS,h1,h]
theorem wrap8 {a:Int} (h1:0 <= a) (h2:a <= 255):IntKind.wrap .u8 a = a:=by
 simp only [IntKind.wrap,IntKind.bits,IntKind.signed]
 simp
 omega
theorem b8M {n:Nat} {s:Str} (hb:b2V s = true) (hm:a5t s 0 <= 9223372036854775807) (hlen:s.length <= 100):∀ (m i acc:Nat),i <= s.length -> s.length - i < m -> a5t (s.drop i) acc = a5t s 0 -> a2M n s m (acc:Int) (i:Int) = some ((a5t s 0:Nat):Int)
 | 0,i,acc,h1,h2,h3=>by omega
 | m + 1,i,acc,h1,h2,h3=>by
  simp only [a2M]
  rcases Nat.lt_or_ge i s.length with h | h
  ·rw [List.drop_eq_getElem_cons h,a5h] at h3
   have hd:48 <= (s[i]).toNat /\ (s[i]).toNat <= 57:=by
    simp only [b2V,List.all_eq_true,Bool.and_eq_true,Nat.ble_eq] at hb
    exact hb _ (List.getElem_mem h)
   have hg:=b7k (s.drop (i + 1)) (acc * 10 + ((s[i]).toNat - 48))
   rw [a4G (by omega),cond_true,idxS_ok h,Option.bind_some,a3W (a:=(acc:Int) * 10) (by omega) (by omega),wrap8 (by omega) (by omega),a3W (a:=((s[i]).toNat:Int) - 48) (by omega) (by omega),a3W (a:=(acc:Int) * 10 + _) (by omega) (by omega),a0d (by omega)]
   rw [show (acc:Int) * 10 + (((s[i]).toNat:Int) - 48) = ((acc * 10 + ((s[i]).toNat - 48):Nat):Int) from by omega]
   exact b8M hb hm hlen m (i + 1) _ h (by omega) h3
  ·rw [a4j (by omega),cond_false]
   rw [List.drop_eq_nil_of_le h] at h3
   have h3:acc = a5t s 0:=h3
   rw [h3]
theorem num_ok {n:Nat} {s:Str} (h:digB s = true) (hn:100 <= n):a2n n s = some ((a5t s 0:Nat):Int):=by
 simp only [digB,Bool.and_eq_true,Nat.ble_eq] at h
 obtain ⟨h1,h2,h3,h4⟩:=h
 unfold a2n
 have:=b8M (n:=n) h1 h4 (by omega) n 0 0 (Nat.zero_le _) (by omega) rfl
 have this:a2M n s n 0 0 = some ((a5t s 0:Nat):Int):=this
 rw [this]; rfl
theorem cx_ok (s:Str):Cx (a6b (Sc.a3f s)) (List.length s:Int):=by
 refine ⟨tokL_len s,fun k=>?_,fun k hk=>?_⟩
 ·unfold H6
  cases h:(a6b (Sc.a3f s))[k]? with
  | none=>show (0:Int) <= (List.length s:Int); omega
  | some t =>
   show 0 <= t.at_
   cases hr:Sc.a3f s with
   | done l =>
    rw [hr] at h
    simp only [a6b,List.getElem?_map] at h
    cases hq:l[k]? with
    | none=>rw [hq] at h; cases h
    | some u=>rw [hq] at h; cases h; show (0:Int) <= ((u.a:Nat):Int); omega
   | _=>rw [hr] at h; simp [a6b] at h
 ·unfold isK at hk
  unfold O8
  cases h:(a6b (Sc.a3f s))[k]? with
  | none=>rw [h] at hk; cases hk
  | some t =>
   rw [h] at hk
   have hk:t.kind = 3:=by simpa [eqB] using hk
   cases hr:Sc.a3f s with
   | done l =>
    rw [hr] at h
    simp only [a6b,List.getElem?_map] at h
    cases hq:l[k]? with
    | none=>rw [hq] at h; cases h
    | some u =>
     rw [hq] at h; cases h
     have hb:=Sc.int_digB (Sc.tok_int hr u (List.mem_of_getElem? hq) hk)
     exact ⟨(a5t u.t 0:Nat),by omega,by show atoi u.t = _; unfold atoi; rw [hb],fun n hn=>num_ok hb (by omega)⟩
   | _=>rw [hr] at h; simp [a6b] at h
def vS (x:Nod):Int × Int:=(a1T (x.sz + 1) x).getD (0,0)
def b0L:List Nod -> Int
 | []=>0
 | x :: r=>(vS x).1 + b0L r
def maxD:List Nod -> Int
 | []=>0
 | x :: r=>max (vS x).2 (maxD r)
def SzOk (x:Nod):Prop:=(∀ n,x.sz + 1 <= n -> a1T n x = some (vS x)) /\ 1 <= (vS x).1 /\ (vS x).1 <= x.sz /\ 1 <= (vS x).2 /\ (vS x).2 <= x.sz
theorem b4r:∀ {l:List Nod},(∀ y ∈ l,SzOk y) -> 0 <= b0L l /\ b0L l <= szN l /\ 0 <= maxD l /\ maxD l <= szN l
 | [],h=>by simp [b0L,maxD,szN]
 | x :: r,h=>by
  obtain ⟨_,h1,h2,h3,h4⟩:=h x (List.mem_cons_self ..)
  obtain ⟨g1,g2,g3,g4⟩:=b4r (l:=r) (fun y hy=>h y (List.mem_cons_of_mem _ hy))
  simp only [b0L,maxD,szN]
  omega
theorem b9d:∀ (l:List Nod) (x:Nod),b0L (l ++ [x]) = b0L l + (vS x).1
 | [],x=>by simp [b0L]
 | y :: r,x=>by rw [List.cons_append,b0L,b0L,b9d r x]; omega
theorem c02 {n:Nat} {x:Nod} {Φ:a0f} (hlen:szN x.l <= 100000) (hok:∀ y ∈ x.l,SzOk y) (hΦ:∀ y ∈ x.l,Φ.a1T y = some (vS y)) :
  ∀ (m i:Nat) (a b:Int),i <= x.l.length -> x.l.length - i < m -> 0 <= a -> a + szN (x.l.drop i) <= 200000 -> 0 <= b -> a2s n Φ x m a b (i:Int) = some (a + b0L (x.l.drop i),max b (maxD (x.l.drop i)))
 | 0,i,a,b,h1,h2,h3,h4,h5=>by omega
 | m + 1,i,a,b,h1,h2,h3,h4,h5=>by
  have hl:=a0e x.l
  simp only [a2s]
  by_cases hi:i < x.l.length
  ·have hm:=List.getElem_mem hi
   have hs:=a6Q hm
   obtain ⟨_,g1,g2,g3,g4⟩:=hok _ hm
   have hd:=List.drop_eq_getElem_cons hi
   rw [hd,szN] at h4
   rw [a4G (by omega),cond_true,a2J hi,Option.bind_some,hΦ _ hm,Option.bind_some]
   rw [a3W (a:=(i:Int) + 1) (by omega) (by omega),a3W (a:=a + _) (by omega) (by omega)]
   have g:=c02 (n:=n) hlen hok hΦ m (i + 1) (a + (vS x.l[i]).1) (max b (vS x.l[i]).2) hi (by omega) (by omega) (by omega) (by omega)
   rw [show ((i:Int) + 1) = ((i + 1:Nat):Int) from rfl,g,hd]
   simp only [b0L,maxD]
   rw [Int.add_assoc,Int.max_assoc]
  ·rw [a4j (by omega),cond_false,List.drop_eq_nil_of_le (by omega)]
   simp only [b0L,maxD]
   rw [Int.add_zero,Int.max_eq_left h5]
theorem sz_val {x:Nod} {n:Nat} (hx:x.sz <= 100000) (hn:x.sz + 1 <= n) (hok:∀ y ∈ x.l,SzOk y):a1T n x = some (1 + b0L x.l,maxD x.l + 1):=by
 have hs:=x.a13
 have hl:=a0e x.l
 obtain ⟨b1,b2,b3,b4⟩:=b4r hok
 cases n with
 | zero=>omega
 | succ n =>
  show a5B n (a0f.fs n) x = _
  unfold a5B
  have g:=c02 (n:=n) (x:=x) (Φ:=a0f.fs n) (by omega) hok (fun y hy=>(hok y hy).1 n (by have:=a6Q hy; omega)) n 0 1 0 (Nat.zero_le _) (by omega) (by omega) (by rw [List.drop_zero]; omega) (by omega)
  rw [List.drop_zero] at g
  have g:a2s n (a0f.fs n) x n 1 0 0 = _:=g
  rw [g,Option.bind_some]
  simp only
  rw [Int.max_eq_right b3,a3W (by omega) (by omega)]
theorem sz_ok:∀ (k:Nat) (x:Nod),x.sz <= k -> x.sz <= 100000 -> SzOk x
 | 0,x,h1,h2=>by have:=x.a13; omega
 | k + 1,x,h1,h2=>by
  have hs:=x.a13
  have hok:∀ y ∈ x.l,SzOk y:=fun y hy=>sz_ok k y (by have:=a6Q hy; omega) (by have:=a6Q hy; omega)
  obtain ⟨b1,b2,b3,b4⟩:=b4r hok
  have hv:vS x = (1 + b0L x.l,maxD x.l + 1):=by unfold vS; rw [sz_val h2 (Nat.le_refl _) hok]; rfl
  refine ⟨fun n hn=>by rw [hv]; exact sz_val h2 hn hok,?_⟩
  rw [hv]
  refine ⟨?_,?_,?_,?_⟩ <;> dsimp only <;> omega
theorem b3L {n:Nat} {l:List Tok} (hl:l.length <= 3000) (hn:20000 <= n) {q:Nat}:∀ (m i:Nat) (o:Int),i <= l.length -> l.length - i < m -> (∃ j:Int,a0T n l m o (i:Int) (q:Int) = some (.brk j)) ∨ (∃ j:Nat,a0T n l m o (i:Int) (q:Int) = some (.out (j:Int)) /\ q <= j /\ j <= l.length)
 | 0,i,o,h1,h2=>by omega
 | m + 1,i,o,h1,h2=>by
  simp only [a0T]
  by_cases hi:i < l.length
  ·rw [a4G (by omega),cond_true,a2J hi,Option.bind_some,b3u _ _ (by simp) (by simp only [List.length_cons,List.length_nil]; omega),a0d (by omega)]
   generalize List.any _ _ = bb
   have up:=fun o'=>b3L hl hn (q:=q) m (i + 1) o' hi (by omega)
   by_cases hq:q <= i
   ·rw [leB_t (by omega)]
    generalize leB o 0 = b1
    generalize eqB (l[i]).kind 9 = b2
    generalize eqB (l[i]).kind 8 = b3
    generalize eqS (l[i]).text [123] = b4
    generalize eqS (l[i]).text [125] = b5
    cases b1 <;> cases b2 <;> cases bb <;> first
     | exact .inr ⟨i,rfl,hq,by omega⟩
     | (cases b3 <;> cases b4 <;> cases b5 <;> exact up _)
   ·rw [b8C (by omega)]
    generalize eqB (l[i]).kind 8 = b3
    generalize eqS (l[i]).text [123] = b4
    generalize eqS (l[i]).text [125] = b5
    cases b3 <;> cases b4 <;> cases b5 <;> exact up _
  ·rw [a4j (by omega),cond_false]
   exact .inl ⟨_,rfl⟩
theorem c1M {n:Nat} {l:List Tok} {size:Int} (hl:l.length <= 3000) (hn:20000 <= n) {k q:Nat} (hk:k < l.length) (hq:k <= q) (hq2:q <= l.length):∃ j:Nat,a1D n (k:Int) l (q:Int) size = some (j:Int) /\ k < j /\ j <= l.length:=by
 obtain ⟨r,hr,r1,r2⟩:∃ r:Nat,cond (eqB (q:Int) (k:Int)) (some (w64 ((q:Int) + 1))) (some (q:Int)) = some (r:Int) /\ k < r /\ r <= l.length:=by
  by_cases h:q = k
  ·rw [a7e (by omega),cond_true,a0d (by omega)]
   exact ⟨q + 1,rfl,by omega,by omega⟩
  ·rw [a7d (by omega),cond_false]
   exact ⟨q,rfl,by omega,hq2⟩
 unfold a1D
 rw [hr,Option.bind_some]
 rcases b3L hl hn (q:=r) n k 0 (by omega) (by omega) with ⟨j,h⟩ | ⟨j,h,h1,h2⟩
 ·rw [h,Z9]
  exact ⟨l.length,rfl,hk,Nat.le_refl _⟩
 ·rw [h,a0r]
  exact ⟨j,rfl,by omega,h2⟩
theorem b8z {s:Str}:∀ {L:List Sc.Tok} {k e:Nat},Sc.Lay s k L e -> k <= s.length -> (∀ i,(k:Int) <= H6 (L.map a98) (List.length s:Int) i /\ H6 (L.map a98) (List.length s:Int) i <= (List.length s:Int)) /\ (∀ i j,i <= j -> H6 (L.map a98) (List.length s:Int) i <= H6 (L.map a98) (List.length s:Int) j) /\ ∀ i j,i < j -> j < L.length -> H6 (L.map a98) (List.length s:Int) i < H6 (L.map a98) (List.length s:Int) j
 | [],k,e,h,hk=>by
  have e0:∀ i,H6 (([]:List Sc.Tok).map a98) (List.length s:Int) i = (List.length s:Int):=fun i=>by simp [H6]
  refine ⟨fun i=>by rw [e0]; omega,fun i j _=>by rw [e0,e0]; omega,fun i j _ h=>by simp at h⟩
 | t :: r,k,e,h,hk=>by
  obtain ⟨h1,h2,h3,h4,h5⟩:=h
  have hg:=Sc.b9a (s:=s) (i:=k)
  obtain ⟨m1,m2,m3⟩:=b8z h5 h4
  have e0:H6 ((t :: r).map a98) (List.length s:Int) 0 = ((t.a:Nat):Int):=rfl
  have e1:∀ i,H6 ((t :: r).map a98) (List.length s:Int) (i + 1) = H6 (r.map a98) (List.length s:Int) i:=fun i=>by simp only [H6,List.map_cons,List.getElem?_cons_succ]
  refine ⟨fun i=>?_,fun i j hij=>?_,fun i j hij hj=>?_⟩
  ·cases i with
   | zero=>rw [e0]; omega
   | succ i=>rw [e1]; have:=m1 i; omega
  ·cases i with
   | zero =>
    cases j with
    | zero=>omega
    | succ j=>rw [e0,e1]; have:=m1 j; omega
   | succ i =>
    cases j with
    | zero=>omega
    | succ j=>rw [e1,e1]; exact m2 i j (by omega)
  ·cases j with
   | zero=>omega
   | succ j =>
    rw [List.length_cons] at hj
    cases i with
    | zero=>rw [e0,e1]; have:=m1 j; omega
    | succ i=>rw [e1,e1]; exact m3 i j (by omega) (by omega)
structure Mono (l:List Tok) (size:Int):Prop where
 lo:∀ i,0 <= H6 l size i
 hi:∀ i,H6 l size i <= size
 up:∀ i j,i <= j -> H6 l size i <= H6 l size j
 st:∀ i j,i < j -> j < l.length -> H6 l size i < H6 l size j
theorem mono_ok (s:Str) (h:b1Y (Sc.a3f s) = 0):Mono (a6b (Sc.a3f s)) (List.length s:Int):=by
 have ho:=(Sc.b0M s).1
 generalize Sc.a3f s = r at h ho
 cases r with
 | go x=>exact ho.bd.elim
 | done L =>
  obtain ⟨_,e,hL,_,_⟩:=ho.lay L rfl
  obtain ⟨m1,m2,m3⟩:=b8z hL (Nat.zero_le _)
  exact ⟨fun i=>Int.le_trans (Int.le_refl _) (m1 i).1,fun i=>(m1 i).2,m2,fun i j h1 h2=>m3 i j h1 (by simpa [a6b] using h2)⟩
 | err c a=>exact absurd h (ho.nz c a rfl)
def Ch (l:List Tok) (size k:Int) (ds:List Nod):Prop:=(∀ x ∈ ds,PN l size 0 k x) /\ ds.Pairwise fun x y=>x.at_ < y.at_
theorem Ch.up {l:List Tok} {size k k':Int} {ds:List Nod} (h:Ch l size k ds) (hk:k <= k'):Ch l size k' ds:=⟨fun x hx=>(h.1 x hx).up (Int.le_refl _) hk,h.2⟩
theorem Ch.add {l:List Tok} {size k q:Int} {ds:List Nod} {x:Nod} (M:Mono l size) (h:Ch l size k ds) (hk:0 <= k) (hq:q <= l.length) (g:PN l size k q x):Ch l size q (ds ++ [x]):=by
 have hkq:k <= q:=by cases g; omega
 refine ⟨fun y hy=>?_,List.pairwise_append.2 ⟨h.2,List.pairwise_singleton _ _,fun y hy z hz=>?_⟩⟩
 ·rcases List.mem_append.1 hy with hy | hy
  ·exact (h.1 y hy).up (Int.le_refl _) hkq
  ·rw [List.mem_singleton.1 hy]; exact g.up hk (Int.le_refl _)
 ·rw [List.mem_singleton.1 hz]
  have hy:=h.1 y hy
  cases hy with
  | mk i i1 i2 i3 i4 =>
   cases g with
   | mk j j1 j2 j3 j4 =>
    rw [i3,j3]
    exact M.st _ _ (by omega) (by omega)
def DOk (x:Nod):Prop:=b4w x /\ SzOk x /\ (vS x).2 <= 39
theorem grpDecl {l:List Tok} {size:Int} (D:Tk l) {n:Nat}:∀ k0:Int,SN l size k0 (U6 n l k0 size):=(grpD D).2.2.2.2.2.2.2.2.2
theorem a7V {n:Nat} {src:Str} {l:List Tok} (C:Cx l (List.length src:Int)) (D:Tk l) (M:Mono l (List.length src:Int)) (hn:90000 <= n):∀ (m k:Nat) (fs:List Flt) (ds:List Nod) (total:Int),k <= l.length -> l.length - k < m -> fs.length <= 20 -> total = 1 + b0L ds -> total <= 4000 -> (∀ x ∈ ds,DOk x) -> szN ds <= 4 * k -> Ch l (List.length src:Int) k ds ->
  ∃ gs es,a0A n src l m total fs ds (k:Int) = some (gs,es) /\ Ch l (List.length src:Int) l.length es /\ szN es <= 12000
 | 0,k,fs,ds,total,h1,h2,h3,h4,h5,h6,h7,h8=>by omega
 | m + 1,k,fs,ds,total,h1,h2,h3,h4,h5,h6,h7,h8=>by
  have hl:=C.hl
  have hlen:=a0e ds
  have fin:∃ gs es,some (fs,ds) = some (gs,es) /\ Ch l (List.length src:Int) l.length es /\ szN es <= 12000:=⟨fs,ds,rfl,h8.up (by omega),by omega⟩
  rw [a0A.eq_2]
  by_cases hk:k < l.length
  case neg =>
   rw [a4j (by omega)]
   exact fin
  rw [a4G (by omega),cond_true,Option.bind_some]
  by_cases hf:fs.length < 20
  case neg =>
   rw [a4j (by omega)]
   exact fin
  rw [a4G (by omega),cond_true,b4e hl h1,Option.bind_some]
  have go:∀ (f:Flt) (q:Nat),k <= q -> q <= l.length -> ∃ gs es,((app 16 fs ([f]:List Flt)).bind fun l8 =>
   (a1D n (k:Int) l (q:Int) (List.length src:Int)).bind fun at9 =>
   a0A n src l m total l8 ds at9) = some (gs,es) /\ Ch l (List.length src:Int) l.length es /\ szN es <= 12000:=by
   intro f q q1 q2
   obtain ⟨j,j1,j2,j3⟩:=c1M (size:=(List.length src:Int)) hl (n:=n) (by omega) hk q1 q2
   rw [a1L (by omega) (by simp) (by omega),Option.bind_some,j1,Option.bind_some]
   exact a7V C D M hn m j (fs ++ [f]) ds total j3 (by omega) (by simp; omega) h4 h5 h6 (by omega) (h8.up (by omega))
  have on:∀ (f:Flt) (q:Nat),k < q -> q <= l.length -> ∃ gs es,((app 16 fs ([f]:List Flt)).bind fun l8 =>
   a0A n src l m total l8 ds (q:Int)) = some (gs,es) /\ Ch l (List.length src:Int) l.length es /\ szN es <= 12000:=by
   intro f q q1 q2
   rw [a1L (by omega) (by simp) (by omega),Option.bind_some]
   exact a7V C D M hn m q (fs ++ [f]) ds total q2 (by omega) (by simp; omega) h4 h5 h6 (by omega) (h8.up (by omega))
  unfold a2U a5a
  rcases declo C (n:=n) h1 hn with ⟨x,q,p1,p3,p4,p5,p6⟩ | ⟨q,f,p1,p3,p4,p5⟩
  ·have hx:=x.a13
   have hp:PN l (List.length src:Int) k q x:=(grpDecl D _ (fun r=>∀ x q,r = .ok (x,q) -> PN l (List.length src:Int) k q x) (fun x q _ _ h x q e=>by cases e; exact h) (fun y x q e=>by cases e) (by omega) (by omega) _ p1) x q rfl
   have ok:=sz_ok x.sz x (Nat.le_refl _) (by omega)
   obtain ⟨v1,v2,v3,v4,v5⟩:=ok
   have hb:=b4r (fun y hy=>(h6 y hy).2.1)
   rw [p1,I5]
   simp only [I5,Option.bind_some]
   rw [a7e (a:=(0:Int)) rfl]
   simp only [Bool.and_self,Bool.not_true,cond_false]
   rw [v1 n (by omega),Option.bind_some]
   rw [a3W (a:=1 + (vS x).2) (by omega) (by omega),a3W (a:=total + (vS x).1) (by omega) (by omega)]
   by_cases d1:40 < 1 + (vS x).2
   ·rw [a4G d1,cond_true]
    exact on _ q (by omega) p4
   rw [a4j d1,cond_false]
   by_cases d2:4000 < total + (vS x).1
   ·rw [a4G d2,cond_true]
    exact on _ q (by omega) p4
   rw [a4j d2,cond_false,a1L (by omega) (by simp) (by omega),Option.bind_some]
   refine a7V C D M hn m q fs (ds ++ [x]) _ p4 (by omega) h3 (by rw [b9d]; omega) (by omega) (fun y hy=>?_) (by simp only [szs]; omega) (h8.add M (by omega) (by omega) hp)
   rcases List.mem_append.1 hy with h | h
   ·exact h6 y h
   ·rw [List.mem_singleton.1 h]
    exact ⟨p6,⟨v1,v2,v3,v4,v5⟩,by omega⟩
  ·rw [p1,O6]
   simp only [O6,Option.bind_some]
   have hc:eqB f.fault.code 0 = false:=by
    rcases p5 with h | ⟨a,_,h⟩ <;> rw [h] <;> exact a7d (by simp)
   rw [hc]
   exact go _ q p3 p4
theorem c1v {n:Nat} (hn:90000 <= n) (s:Str):∃ (x:Nod) (fs:List Flt),a5A n s = some (x,fs) /\ (x.l = [] ∨ (Mono (a6b (Sc.a3f s)) (List.length s:Int) /\ Ch (a6b (Sc.a3f s)) (List.length s:Int) (a6b (Sc.a3f s)).length x.l)) /\ x.sz <= 12010:=by
 have hs:b06 s = some (a6b (Sc.a3f s),b1Y (Sc.a3f s),tokA (Sc.a3f s)):=rfl
 have C:=cx_ok s
 unfold a5A a8d
 rw [hs]
 simp only [Option.bind_some]
 rcases tok_code s with ⟨h1,h2⟩ | ⟨h1,h2⟩
 ·rw [h1,h2,a7e (a:=(0:Int)) rfl]
  simp only [Bool.and_self,Bool.not_true,cond_false]
  have hl:=C.hl
  have D:Tk (a6b (Sc.a3f s)):=⟨by omega⟩
  have M:=mono_ok s h1
  obtain ⟨gs,es,g1,g2,g4⟩:=a7V C D M hn n 0 [] [] 1 (Nat.zero_le _) (by omega) (by simp) (by simp [b0L]) (by omega) (fun x hx=>by cases hx) (by simp [szN]) ⟨fun x hx=>(by cases hx),.nil⟩
  have g1:a0A n s (a6b (Sc.a3f s)) n 1 [] [] 0 = some (gs,es):=g1
  rw [g1]
  exact ⟨_,_,rfl,.inr ⟨M,g2⟩,by simp only [szs]; omega⟩
 ·rw [a7d h1]
  exact ⟨_,_,rfl,.inl rfl,by simp only [szs]; omega⟩
theorem b6L (i:Int):∀ m:List (Int × Bool),(a9E eqB i (mput eqB i true m)).getD false = true
 | []=>by simp [mput,a9E,eqB]
 | (k,b) :: r=>by
  unfold mput
  cases h:eqB i k with
  | true=>simp [a9E,eqB]
  | false=>simp only [a9E,h]; exact b6L i r
theorem b6K {i j:Int}:∀ m:List (Int × Bool),(a9E eqB j m).getD false = true -> (a9E eqB j (mput eqB i true m)).getD false = true
 | [],h=>by simp [a9E] at h
 | (k,b) :: r,h=>by
  unfold mput
  unfold a9E at h
  cases h1:eqB i k with
  | true =>
   simp only [a9E]
   have e:i = k:=by simpa [eqB] using h1
   subst e
   cases h2:eqB j i with
   | true=>rfl
   | false=>rw [h2] at h; exact h
  | false =>
   simp only [a9E]
   cases h2:eqB j k with
   | true=>rw [h2] at h; exact h
   | false=>rw [h2] at h; exact b6K r h
def MpOk (l:List Tok) (size:Int) (mp:List (Int × Bool)):Prop:=∀ j,j < l.length -> (a9E eqB (H6 l size j) mp).getD false = true
theorem b8L {n:Nat} {l:List Tok} {size:Int} {x:Nod} (hl:l.length <= 3000):∀ (m i:Nat) (mp:List (Int × Bool)),i <= l.length -> l.length - i < m -> (∀ j,j < i -> (a9E eqB (H6 l size j) mp).getD false = true) ->
  ∃ mp',a0I n m l (i:Int) x mp = some (x,mp') /\ MpOk l size mp'
 | 0,i,mp,h1,h2,h3=>by omega
 | m + 1,i,mp,h1,h2,h3=>by
  rw [a0I.eq_2]
  by_cases hi:i < l.length
  ·rw [a4G (by omega),cond_true,a2J hi,Option.bind_some,a0d (by omega)]
   refine b8L hl m (i + 1) _ hi (by omega) fun j hj=>?_
   by_cases he:j = i
   ·subst he
    rw [show (l[j]).at_ = H6 l size j from by unfold H6; rw [List.getElem?_eq_getElem hi]]
    exact b6L _ _
   ·exact b6K _ (h3 j (by omega))
  ·rw [a4j (by omega),cond_false]
   exact ⟨mp,rfl,fun j hj=>h3 j (by omega)⟩
section
variable {l:List Tok} {size:Int} {mp:List (Int × Bool)} (M:Mono l size) (hm:MpOk l size mp)
include M
theorem b3H {n:Nat} {x:Nod} {q:Int} {j:Int} {Φ:V4} (hj:0 <= j) (hx:x.at_ = H6 l size j.toNat) (hlen:x.l.length <= 100000) (hc:∀ y ∈ x.l,PN l size j q y) (hΦ:∀ y ∈ x.l,Φ.a1z y mp = some true) :
  ∀ (m i:Nat),i <= x.l.length -> x.l.length - i < m -> a1H n Φ mp x m (i:Int) = some (.brk ())
 | 0,i,h1,h2=>by omega
 | m + 1,i,h1,h2=>by
  rw [a1H.eq_2]
  by_cases hi:i < x.l.length
  ·have hy:=List.getElem_mem hi
   have ha:x.at_ <= (x.l[i]).at_:=by
    have:=hc _ hy
    cases this with
    | mk k k1 k2 k3 k4=>rw [hx,k3]; exact M.up _ _ (by omega)
   rw [a4G (by omega),cond_true,a2J hi]
   simp only [Option.bind_some]
   rw [a4j (by omega),cond_false,hΦ _ hy]
   simp only [Option.bind_some,Bool.not_true,cond_false]
   rw [a0d (by omega)]
   exact b3H hj hx hlen hc hΦ m (i + 1) hi (by omega)
  ·rw [a4j (by omega),cond_false]
include hm
theorem c0Z:∀ (n:Nat) (x:Nod) (k q:Int),x.sz < n -> x.sz <= 100000 -> 0 <= k -> q <= l.length -> PN l size k q x -> a1z n x mp = some true
 | 0,x,k,q,h1,h2,h3,h4,h5=>by omega
 | n + 1,x,k,q,h1,h2,h3,h4,h5=>by
  have hs:=x.a13
  have hl:=a0e x.l
  cases h5 with
  | mk j j1 j2 j3 j4 =>
   show a4i n (V4.fs n) x mp = _
   unfold a4i
   rw [j3,hm _ (by omega)]
   have g:=b3H M (n:=n) (Φ:=V4.fs n) (by omega) j3 (by omega) j4 (fun y hy=>c0Z n y j q (by have:=a6Q hy; omega) (by have:=a6Q hy; omega) (by omega) h4 (j4 y hy)) n 0 (Nat.zero_le _) (by omega)
   have g:a1H n (V4.fs n) mp x n 0 = _:=g
   rw [g]
   rfl
theorem b8x {n:Nat} (hn:90000 <= n) {x:Nod} (hx:x.sz <= 12010) (h:Ch l size l.length x.l):∀ (m i:Nat),i <= x.l.length -> x.l.length - i < m -> Z7 n m (i:Int) x mp = some (.brk ())
 | 0,i,h1,h2=>by omega
 | m + 1,i,h1,h2=>by
  have hs:=x.a13
  have hl:=a0e x.l
  rw [Z7.eq_2]
  by_cases hi:i < x.l.length
  ·have hg:=b8x hn hx h m (i + 1) hi (by omega)
   have hy:=List.getElem_mem hi
   have hp:=c0Z M hm n _ 0 _ (by have:=a6Q hy; omega) (by have:=a6Q hy; omega) (Int.le_refl _) (Int.le_refl _) (h.1 _ hy)
   rw [a4G (by omega),cond_true,a2J hi]
   simp only [Option.bind_some,hp,Bool.not_true,cond_false]
   rw [a0d (by omega)]
   cases i with
   | zero=>rw [a4j (by omega)]; exact hg
   | succ i =>
    have hp:=List.pairwise_iff_getElem.1 h.2 i (i + 1) (by omega) hi (by omega)
    rw [a4G (by omega),cond_true,a3W (by omega) (by omega),show ((i + 1:Nat):Int) - 1 = ((i:Nat):Int) from by omega,a2J (show i < x.l.length by omega),Option.bind_some,b8C (by omega)]
    exact hg
  ·rw [a4j (by omega),cond_false]
end
theorem b82 {n:Nat} (hn:90000 <= n) (s:Str):a3Z n s = some true:=by
 unfold a3Z a9D
 rw [Option.bind_some]
 cases ltB 8200 (List.length s:Int) with
 | true=>rfl
 | false =>
  rw [cond_false]
  obtain ⟨x,fs,e1,e2,e3⟩:=c1v hn s
  have hs:b06 s = some (a6b (Sc.a3f s),b1Y (Sc.a3f s),tokA (Sc.a3f s)):=rfl
  have hl:=(cx_ok s).hl
  obtain ⟨mp,m1,m2⟩:=b8L (n:=n) (size:=(List.length s:Int)) (x:=x) hl n 0 [] (Nat.zero_le _) (by omega) fun j hj=>by omega
  have m1:a0I n n (a6b (Sc.a3f s)) 0 x [] = some (x,mp):=m1
  rw [e1,Option.bind_some]
  simp only
  rw [hs,Option.bind_some]
  simp only
  rw [m1,Option.bind_some]
  simp only
  have hk:Z7 n n 0 x mp = some (.brk ()):=by
   have hz:=x.a13
   have hzl:=a0e x.l
   rcases e2 with e2 | ⟨M,e2⟩
   ·cases n with
    | zero=>omega
    | succ n=>rw [Z7.eq_2,e2,a4j (by simp)]; rfl
   ·exact b8x M m2 hn e3 e2 n 0 (Nat.zero_le _) (by omega)
  rw [hk]
  rfl
end Go.Proofs.YtlfomdllnidliaaGreatDoor
namespace Go.Proofs.YtlfomdllnidliaaGreatDoor
open Go Go.Vm
theorem cell_lt {w:World} {b o:Nat} {x:Value} (h:w.cell? ⟨b,o,none⟩ = some x):b < w.heap.size:=a1h h
theorem b9B (b o:Nat) (x y:Int) (fa fb:Int) (u:Value) (older:List PanicEntry) (w:World) (h0:w.cell? ⟨b,o,none⟩ = some (.int .i64 x)) (h1:w.cell? ⟨b,o + 1,none⟩ = some (.int .i64 y)) (z0:w.frozen? ⟨b,o,none⟩ = false) (z1:w.frozen? ⟨b,o + 1,none⟩ = false) :
  CallsD Tryz.prog 23 #[.pointer (some ⟨b,o,none⟩)] (.panicking ({ v:=.iface 77 (.agg #[.int .i64 fa,.int .i64 fb]),recovered:=false } :: older)) w fun e u' w' =>
   e = .returned (.tuple #[]) /\ u' = .panicking ({ v:=.iface 77 (.agg #[.int .i64 fa,.int .i64 fb]),recovered:=true } :: older) /\
   w' = ((w.setCell ⟨b,o,none⟩ (.int .i64 fa)).setCell ⟨b,o + 1,none⟩ (.int .i64 fb)).alloc (.cells #[.int .i64 fa,.int .i64 fb] 77):=by
 refine callsD_of_wpS Tryz.func23 rfl fun c₀ cs hu=>?_
 apply wpS_seq
 apply wpS_region
 simp [wpOpsS,go_sem,recoverD,hu,Tryz.ntmps23,Exit.thenS]
 refine wpS_of_wp ?_
 go_wp2
 have hta:(Instr.typeAssert (.iface 77 (.agg #[.int .i64 fa,.int .i64 fb])) 20 77 true).run Tryz.prog w = .ok (.tuple #[.agg #[.int .i64 fa,.int .i64 fb],.bool true]) w:=by
  simp only [Instr.typeAssert,Sem.run_bind,run_underlying Tryz.underlying77,Result.andThen_ok]
  simp
 rw [hta]
 simp only [Result.andThen]
 rw [Oper.upon_value]
 have hb:=cell_lt h0
 have G:a1g w (w.alloc (.cells #[.int .i64 fa,.int .i64 fb] 77)):=a1g.push w _
 have a0:=(G.cell hb o).trans h0
 have a1:=(G.cell hb (o + 1)).trans h1
 have y0:=(G.frozen hb o).trans z0
 have y1:=(G.frozen hb (o + 1)).trans z1
 unfold cellAt at a0 a1
 have a2:((w.alloc (.cells #[.int .i64 fa,.int .i64 fb] 77)).setCell ⟨b,o,none⟩ (.int .i64 fa)).cell? ⟨b,o + 1,none⟩ = some (.int .i64 y):=(World.cell?_setCell_other _ _ _ _ (by simp)).trans a1
 have y2:((w.alloc (.cells #[.int .i64 fa,.int .i64 fb] 77)).setCell ⟨b,o,none⟩ (.int .i64 fa)).frozen? ⟨b,o + 1,none⟩ = false:=by simp [y1]
 go_wp2
 obtain ⟨a₀,b₀,e₀,d₀,f₀,g₀,h₀⟩:=c₀
 subst hu
 simp [bodyPostS,results,Tryz.results23]
theorem b9A (p:Addr) (w:World) :
  CallsD Tryz.prog 23 #[.pointer (some p)] .returning w fun e u' w'=>e = .returned (.tuple #[]) /\ u' = .returning /\ w' = w:=by
 refine callsD_of_wpS Tryz.func23 rfl fun c₀ cs hu=>?_
 apply wpS_seq
 apply wpS_region
 simp [wpOpsS,go_sem,recoverD,hu,Tryz.ntmps23,Exit.thenS]
 refine wpS_of_wp ?_
 go_wp2
 cases c₀
 simp_all [bodyPostS,results,Tryz.results23]
def gClo:List Nat:=[13,2,3]
def gPre:List V -> Hp -> Option (Nat × List V × Hp):=fun args H=>match args with
 | [.ptr _ _,.func (.func g) a c]=>gd (has g gClo) (some (g,a ++ c,b0b H))
 | _=>none
def b6v:List V -> Hp -> Out -> Option Out:=fun _ _ o=>match o with
 | .ret (.tuple []) H1=>some (.ret (.agg [.int .i64 0,.int .i64 0]) H1)
 | .pan (.iface t (.agg [.int .i64 a,.int .i64 b])) H1=>gd (Nat.beq t 77) (some (.ret (.agg [.int .i64 a,.int .i64 b]) H1))
 | _=>none
theorem c1g {g:Nat} (h:has g gClo = true):∃ fn c,Tryz.prog.funcs[g]? = some fn /\ (fn.name == "runtime.NumGoroutine") = false /\ fn.body = some c:=by
 have:g = 13 ∨ g = 2 ∨ g = 3:=by
  simp only [has,gClo] at h
  split at h
  ·exact .inl (Nat.eq_of_beq_eq_true (by assumption)).symm
  ·split at h
   ·exact .inr (.inl (Nat.eq_of_beq_eq_true (by assumption)).symm)
   ·split at h
    ·exact .inr (.inr (Nat.eq_of_beq_eq_true (by assumption)).symm)
    ·cases h
 rcases this with rfl | rfl | rfl
 ·exact ⟨_,_,Tryz.func13,rfl,rfl⟩
 ·exact ⟨_,_,Tryz.func2,rfl,rfl⟩
 ·exact ⟨_,_,Tryz.func3,rfl,rfl⟩
theorem agg2 {ρ:Rho} {lab:Lab} {w:World} (a b:Int):∀ (i:Nat) (v:V) (x:Value),[V.int .i64 a,.int .i64 b][i]? = some v -> [Value.int .i64 a,.int .i64 b][i]? = some x -> Rel ρ lab w v x
 | 0,_,_,h,g=>by cases h; cases g; exact .int _ _
 | 1,_,_,h,g=>by cases h; cases g; exact .int _ _
 | i + 2,_,_,h,g=>by simp at h
theorem a7P:ViaOk Tryz.prog 12 gPre b6v:=by
 refine ⟨fun args H g' l H' o out hp ho ρ lab w xs hc hS hx hcall=>?_,⟨_,_,Tryz.func12,rfl,rfl⟩⟩
 unfold gPre at hp
 split at hp
 ·rename_i args0 r off g0 a c
  obtain ⟨hg,hp⟩:=O9 hp
  cases hp
  obtain ⟨x1,xr0,rfl,r1,r2⟩:=J3.1 hx
  obtain ⟨x2,xr,rfl,r3,r4⟩:=J3.1 r2
  have:xr = []:=by have:=r4.1; simpa using this
  subst this
  cases r3 with
  | func _ _ _ us ys u1 u2 u3 u4 =>
  obtain ⟨fn,cd,k1,k2,k3⟩:=c1g hg
  have hrun:∀ args w,(callFunc g' args).run Tryz.prog w = .ok (.enter g' args) w:=fun args w=>by
   have h1:fn.name ≠ "runtime.NumGoroutine":=by simpa using k2
   simp [callFunc,k1,h1,k3]
  have G:a1g w (w.alloc (.cells #[.int .i64 0,.int .i64 0] 36)):=a1g.push w _
  have hB:w.heap.size < (w.alloc (.cells #[.int .i64 0,.int .i64 0] 36)).heap.size:=by
   show w.heap.size < (w.heap.push _).size
   rw [Array.size_push]; omega
  have hS1:=(hS.mine G hB).b0b
  have hl:M6 ρ lab w (a ++ c) (us ++ ys):=M6.append ⟨u1,u3⟩ ⟨u2,u4⟩
  have hl1:=hl.carry (mineF G)
  have hK:=hcall ρ _ _ (us ++ ys) (b3s _ _ hc) hS1 hl1
  have C0:(w.alloc (.cells #[.int .i64 0,.int .i64 0] 36)).cell? ⟨w.heap.size,0,none⟩ = some (.int .i64 0):=by simp
  have C1:(w.alloc (.cells #[.int .i64 0,.int .i64 0] 36)).cell? ⟨w.heap.size,1,none⟩ = some (.int .i64 0):=by simp
  have Z0:(w.alloc (.cells #[.int .i64 0,.int .i64 0] 36)).frozen? ⟨w.heap.size,0,none⟩ = false:=by simp
  have Z1:(w.alloc (.cells #[.int .i64 0,.int .i64 0] 36)).frozen? ⟨w.heap.size,1,none⟩ = false:=by simp
  have hmf:∀ (fn:Fn) (first cap:Array Value) (w:World),(Instr.makeFunc fn first cap).run Tryz.prog w = .ok (.func fn first cap) w:=fun _ _ _ _=>rfl
  clear hcall hx r1 r2 r4 u3 u4 hl hl1 hS1
  generalize hw1:w.alloc (.cells #[.int .i64 0,.int .i64 0] 36) = w1 at *
  go_enter_defers Tryz.func12,Tryz.ntmps12
  go_wp2
  refine hK.mono ?_
  intro e w2 hP
  unfold b6v at ho
  split at ho
  ·rename_i H1
   cases ho
   cases e with
   | returned x =>
    obtain ⟨ρ',lab',s1,s2,s3,s4,s5,s6⟩:=hP
    have hx0:x = .tuple #[]:=by
     cases s4 with
     | tuple _ zs h1 h2 =>
      have:zs = []:=by simpa using h1
      subst this; rfl
    subst hx0
    obtain ⟨d0,e0⟩:=b0X s2 hB 0
    obtain ⟨d1,e1⟩:=b0X s2 hB 1
    have d0:=d0.trans C0
    have d1:=d1.trans C1
    have E:=Ext.left hS G hB s2 (Wrote.refl _ w2)
    have S:=s1.left s2 (Wrote.refl _ w2)
    unfold cellAt at d0 d1
    go_wp2
    refine leaves_cons (f:=23) (args:=#[.pointer (some ⟨w.heap.size,0,none⟩)]) (by simp) (by simp [go_sem]) ?_
    refine (b9A ⟨w.heap.size,0,none⟩ _).mono ?_
    rintro e u' w'' ⟨rfl,rfl,rfl⟩
    simp [Leaves,settle,results,Tryz.results12,go_sem,d0,d1]
    rw [a9U] at s3 s6
    exact ⟨ρ',_,S,E,s3,.agg _ [.int .i64 0,.int .i64 0] rfl (agg2 _ _),s5,s6⟩
   | panicked ch=>exact hP.elim
   | outgrown=>exact hP.elim
  ·rename_i t fa fb H1
   obtain ⟨ht,ho⟩:=O9 ho
   cases ho
   have ht:=Nat.eq_of_beq_eq_true ht
   subst ht
   cases e with
   | returned x=>exact hP.elim
   | panicked ch =>
    obtain ⟨x,rfl,ρ',lab',s1,s2,s3,s4,s5,s6⟩:=hP
    obtain ⟨xv,rfl,s7⟩:∃ xv,x = .iface 77 xv /\ xv = .agg #[.int .i64 fa,.int .i64 fb]:=by
     cases s4 with
     | iface _ _ xv h =>
      refine ⟨xv,rfl,?_⟩
      cases h with
      | agg _ zs h1 h2 =>
       match zs,h1,h2 with
       | [z0,z1],_,h2 =>
        have q0:=h2 0 _ z0 rfl rfl
        have q1:=h2 1 _ z1 rfl rfl
        cases q0; cases q1; rfl
    subst s7
    obtain ⟨d0,e0⟩:=b0X s2 hB 0
    obtain ⟨d1,e1⟩:=b0X s2 hB 1
    have d0:=d0.trans C0
    have d1:=d1.trans C1
    have e0:=e0.trans Z0
    have e1:=e1.trans Z1
    unfold cellAt at d0 d1
    have hsz:w.heap.size < w2.heap.size:=Nat.lt_of_lt_of_le hB s2.size
    have hW:Wrote w.heap.size w2 (((w2.setCell ⟨w.heap.size,0,none⟩ (.int .i64 fa)).setCell ⟨w.heap.size,0 + 1,none⟩ (.int .i64 fb)).alloc (.cells #[.int .i64 fa,.int .i64 fb] 77)):=by
     refine ⟨?_,rfl,rfl,rfl,fun b hb hn=>?_⟩
     ·refine Nat.le_trans ?_ (a1g.push _ _).size
      rw [World.size_setCell,World.size_setCell]
      exact Nat.le_refl _
     ·refine ((a1g.push _ _).blk b (by rw [World.size_setCell,World.size_setCell]; exact hb)).trans ?_
      rw [heap_setCell_other _ _ _ _ hn,heap_setCell_other _ _ _ _ hn]
    have c0:(w2.setCell ⟨w.heap.size,0,none⟩ (.int .i64 fa)).cell? ⟨w.heap.size,0 + 1,none⟩ = some (.int .i64 0):=(World.cell?_setCell_other _ _ _ _ (by simp)).trans d1
    have f1:((w2.setCell ⟨w.heap.size,0,none⟩ (.int .i64 fa)).setCell ⟨w.heap.size,0 + 1,none⟩ (.int .i64 fb)).cell? ⟨w.heap.size,0 + 1,none⟩ = some (.int .i64 fb):=World.cell?_setCell_same _ _ _ c0
    have f0:((w2.setCell ⟨w.heap.size,0,none⟩ (.int .i64 fa)).setCell ⟨w.heap.size,0 + 1,none⟩ (.int .i64 fb)).cell? ⟨w.heap.size,0,none⟩ = some (.int .i64 fa):=(World.cell?_setCell_other _ _ _ _ (by simp)).trans (World.cell?_setCell_same _ _ _ d0)
    have hsz2:w.heap.size < ((w2.setCell ⟨w.heap.size,0,none⟩ (.int .i64 fa)).setCell ⟨w.heap.size,0 + 1,none⟩ (.int .i64 fb)).heap.size:=by rw [World.size_setCell,World.size_setCell]; exact hsz
    have GT:a1g _ (((w2.setCell ⟨w.heap.size,0,none⟩ (.int .i64 fa)).setCell ⟨w.heap.size,0 + 1,none⟩ (.int .i64 fb)).alloc (.cells #[.int .i64 fa,.int .i64 fb] 77)):=a1g.push _ _
    have f0:=(GT.cell hsz2 0).trans f0
    have f1:=(GT.cell hsz2 (0 + 1)).trans f1
    unfold cellAt at f0 f1
    simp only [Nat.zero_add] at f0 f1
    have E:=Ext.left hS G hB s2 hW
    have S:=s1.left s2 hW
    go_wp2
    refine leaves_cons (f:=23) (args:=#[.pointer (some ⟨w.heap.size,0,none⟩)]) (by simp) (by simp [go_sem]) ?_
    refine (b9B w.heap.size 0 0 0 fa fb .nilIface [] w2 d0 d1 e0 e1).mono ?_
    rintro e u' w'' ⟨rfl,rfl,rfl⟩
    simp [Leaves,settle,results,Tryz.results12,go_sem,f0,f1]
    rw [a9U] at s3 s6
    exact ⟨ρ',_,S,E,s3,.agg _ [.int .i64 fa,.int .i64 fb] rfl (agg2 _ _),s5,s6⟩
   | outgrown=>exact hP.elim
  ·cases ho
 ·cases hp
end Go.Proofs.YtlfomdllnidliaaGreatDoor
namespace Go.Proofs.YtlfomdllnidliaaGreatDoor
open Go Go.Vm
def T:List (Nat × Ty):=[
 (1,⟨.func,1,8,[.nilFunc]⟩),
 (3,⟨.int .i64,1,8,[.i 0]⟩),
 (4,⟨.bool,1,1,[.bool false]⟩),
 (9,⟨.string,1,16,[.str []]⟩),
 (24,⟨.slice 26,1,24,[.slice .nil 0 []]⟩),
 (26,⟨.struct [(3,0),(9,1),(3,2),(24,3)],4,56,[.i 0,.str [],.i 0,.slice .nil 0 []]⟩),
 (27,⟨.slice 29,1,24,[.slice .nil 0 []]⟩),
 (29,⟨.struct [(3,0),(9,1),(3,2),(26,3),(24,7),(27,8),(3,9)],10,144,[.i 0,.str [],.i 0,.i 0,.str [],.i 0,.slice .nil 0 [],.slice .nil 0 [],.slice .nil 0 [],.i 0]⟩),
 (30,⟨.slice 36,1,24,[.slice .nil 0 []]⟩),
 (33,⟨.slice 41,1,24,[.slice .nil 0 []]⟩),
 (34,⟨.int .i64,1,8,[.i 0]⟩),
 (36,⟨.struct [(34,0),(3,1)],2,16,[.i 0,.i 0]⟩),
 (39,⟨.map 3 4,1,8,[.opq]⟩),
 (41,⟨.struct [(3,0),(9,1),(3,2),(3,3)],4,40,[.i 0,.str [],.i 0,.i 0]⟩),
 (44,⟨.ptr 48,1,8,[.nilptr]⟩),
 (48,⟨.struct [(33,0),(3,1),(3,2)],3,40,[.slice .nil 0 [],.i 0,.i 0]⟩),
 (66,⟨.slice 9,1,24,[.slice .nil 0 []]⟩),
 (77,⟨.struct [(36,0)],2,16,[.i 0,.i 0]⟩),
 (117,⟨.slice 124,1,24,[.slice .nil 0 []]⟩),
 (124,⟨.struct [(66,0),(4,1)],2,32,[.slice .nil 0 [],.bool false]⟩)]
def keep:Nat -> Nat -> List Nat
 | 3,7=>[3,5,7,8]
 | 3,11=>[3,7,9]
 | 3,100011=>[3,7]
 | 3,100016=>[]
 | 3,130015=>[3,7,9,72]
 | 6,7=>[2,4,6,7,8]
 | 6,100022=>[2,6,8]
 | 6,190041=>[2,4,6,7,8,41]
 | 8,4=>[1,2,5]
 | 8,100009=>[]
 | 8,130008=>[1,2,5,36]
 | 14,100017=>[0,2,3]
 | 14,100019=>[0,2,3]
 | 14,130020=>[0,2,3,56]
 | 15,4=>[0,4,5]
 | 15,100003=>[0,1]
 | 15,100006=>[0,4,5]
 | 15,100014=>[0]
 | 15,130009=>[0,4,5,6,57]
 | 15,130011=>[0,4,5,6,69]
 | 15,130013=>[0,4,5,79]
 | 16,3=>[2,3,9,10,11]
 | 16,100010=>[2,3]
 | 25,5=>[0,2,3]
 | 25,12=>[0,2,3]
 | 25,100013=>[0,2,3]
 | 25,100017=>[0,2,3]
 | 26,8=>[0,2,3]
 | 26,16=>[0,2,3]
 | 26,100017=>[0,2,3]
 | 26,100020=>[0,2,3]
 | 31,4=>[0,3]
 | 31,100010=>[0,3]
 | 32,3=>[0,3]
 | 32,100009=>[0,3,4]
 | 32,100014=>[0,3]
 | 32,100018=>[0,3]
 | 32,190013=>[0,3,13]
 | 33,3=>[0,3]
 | 33,11=>[0,3,4]
 | 33,100008=>[0,3,4]
 | 33,100014=>[0,3,4]
 | 33,100015=>[0,3,4]
 | 33,100017=>[3]
 | 58,4=>[0,3]
 | 59,100013=>[0,2,3]
 | 60,8=>[0,2,3]
 | 60,100011=>[0,2,3]
 | 60,100012=>[0,2,3]
 | 61,4=>[0,3]
 | 61,100013=>[0,3,4]
 | 67,2=>[0,1,7,8]
 | 67,100008=>[]
 | 87,5=>[0,3]
 | 87,100011=>[0,3,4]
 | 87,100016=>[0,3]
 | 89,5=>[0,1,4,5,6]
 | 89,9=>[0,1,4,7]
 | 89,100008=>[0,1,4,5,6]
 | 89,100009=>[0,1,4,5,6]
 | 89,100013=>[4,7]
 | 89,190038=>[0,1,4,7,38]
 | 90,2=>[0,3]
 | 90,100005=>[3]
 | 94,100016=>[0,1,4,5]
 | 94,130004=>[0,1,4,5,6]
 | 94,130006=>[0,1,4,5,16]
 | 95,100005=>[0,2,3]
 | 95,100027=>[2,5]
 | 95,130008=>[0,2,23,24]
 | 100,100006=>[0,2,3]
 | 100,100010=>[0,2,3,4]
 | 100,130011=>[0,2,3,30]
 | 101,100011=>[2,3,4]
 | 101,100012=>[2,3]
 | 102,5=>[0,2,3]
 | 102,100012=>[0,2,3]
 | 102,100017=>[0,2,3]
 | 105,1=>[1]
 | 105,100004=>[1]
 | 112,6=>[0,2,3]
 | 112,100009=>[0,2,3]
 | 112,100025=>[2,3]
 | 113,100007=>[0,2,3]
 | 115,3=>[0,2,6,7,14,15]
 | 115,6=>[0,2,6,7,9,14,15]
 | 115,100014=>[0,2,6,7,14,15]
 | 115,100015=>[6,7]
 | 115,190065=>[0,2,6,7,9,14,15,65]
 | 122,4=>[0,2,3,4]
 | 122,100010=>[0,2,4,5]
 | 122,100017=>[0,2,4]
 | 127,27=>[0,2,3]
 | 127,100030=>[0,2,3]
 | 127,100037=>[2,3]
 | 128,5=>[0,3]
 | 128,100011=>[0,3]
 | 128,100012=>[0,3]
 | 135,5=>[0,2,3,4]
 | 137,3=>[0,2,3]
 | 137,100008=>[2,3]
 | _,_=>[]
def cut:Nat -> Nat -> Bool
 | 3,11=>true
 | 3,16=>true
 | 3,30015=>true
 | 6,22=>true
 | 6,90041=>true
 | 8,9=>true
 | 8,30008=>true
 | 14,17=>true
 | 14,19=>true
 | 14,30020=>true
 | 15,3=>true
 | 15,6=>true
 | 15,14=>true
 | 15,30009=>true
 | 15,30011=>true
 | 15,30013=>true
 | 16,10=>true
 | 25,13=>true
 | 25,17=>true
 | 26,17=>true
 | 26,20=>true
 | 31,10=>true
 | 32,9=>true
 | 32,14=>true
 | 32,18=>true
 | 32,90013=>true
 | 33,8=>true
 | 33,14=>true
 | 33,15=>true
 | 33,17=>true
 | 59,13=>true
 | 60,11=>true
 | 60,12=>true
 | 61,13=>true
 | 67,8=>true
 | 87,11=>true
 | 87,16=>true
 | 89,8=>true
 | 89,9=>true
 | 89,13=>true
 | 89,90038=>true
 | 90,5=>true
 | 94,16=>true
 | 94,30004=>true
 | 94,30006=>true
 | 95,5=>true
 | 95,27=>true
 | 95,30008=>true
 | 100,6=>true
 | 100,10=>true
 | 100,30011=>true
 | 101,11=>true
 | 101,12=>true
 | 102,12=>true
 | 102,17=>true
 | 105,4=>true
 | 112,9=>true
 | 112,25=>true
 | 113,7=>true
 | 115,14=>true
 | 115,15=>true
 | 115,90065=>true
 | 122,10=>true
 | 122,17=>true
 | 127,30=>true
 | 127,37=>true
 | 128,11=>true
 | 128,12=>true
 | 137,8=>true
 | _,_=>false
def b2s:List Nat:=[]
def b1c:Nat -> Nat -> Bool
 | 28,7=>true
 | 28,8=>true
 | 31,0=>true
 | 59,8=>true
 | 61,0=>true
 | 87,0=>true
 | 103,8=>true
 | f,_=>has f b2s
def a6x:Nat -> Nat -> Bool
 | f,_=>has f b2s
def slk:Nat -> Nat -> List (Nat × Nat)
 | 89,9=>[(7,3)]
 | 115,6=>[(7,6),(7,7),(7,8)]
 | 115,100014=>[(7,6),(7,7),(7,8)]
 | 122,4=>[(4,6),(4,7)]
 | 122,100017=>[(4,8)]
 | 127,100037=>[(3,8)]
 | 137,3=>[(3,6)]
 | _,_=>[]
def sep:Nat -> Nat -> Option (List Nat × List Nat)
 | 6,3=>some ([0,1,2,3,4],[5,1000002])
 | 10,2=>some ([0,1,2,3,5,4,6,7],[5])
 | 14,12=>some ([0,1,2,3,4,5,6],[30])
 | 14,22=>some ([0,1,2,3,4,5,6],[64])
 | 14,27=>some ([0,1,2,3,4,5,6],[79])
 | 24,3=>some ([0,1,2,3,4,5,6,7,8,9,10,11,12,13],[32,28,24])
 | 27,3=>some ([0,1,2,3,4,5,6,7],[7])
 | 33,10=>some ([0,1,2,3,4,5,6,7],[22])
 | 33,12=>some ([0,1,2,3,4,5,6,7],[31])
 | 59,5=>some ([0,1,2,3,4,5,6],[15])
 | 59,13=>some ([0,1,2,3,4,5,6],[41])
 | 63,3=>some ([0,1,2,3,4,5,6,7,8,9,10,11],[20,18,14])
 | 89,11=>some ([0,2,3,1,4,5],[7])
 | 95,18=>some ([0,1,2,3,4,5,6,7],[56])
 | 95,37=>some ([0,1,2,3,4,5,6,7],[112])
 | 95,45=>some ([0,1,2,3,4,5,6,7],[144])
 | 101,4=>some ([0,1,2,3,4,5,6,7],[13])
 | 102,9=>some ([0,1,2,3,4,5,6,7],[32])
 | 102,14=>some ([0,1,2,3,4,5,6,7],[54])
 | 112,5=>some ([0,1,2,3,4,5,6,7],[14])
 | 112,7=>some ([0,1,2,3,4,5,6,7],[23])
 | 115,7=>some ([0,1,2,3,4,5,6,7,8,9,10,11,12,13,14,15],[77,75,72,68])
 | 115,9=>some ([0,1,3,4,5,6,2,7,8,9],[])
 | 122,5=>some ([0,2,3,4,5,1,6,7,8],[4,17])
 | 122,8=>some ([0,1,2,3,4,5,6],[25])
 | 122,12=>some ([0,1,2,3,4,5,6,7],[38,36])
 | 122,14=>some ([0,1,2,3,4,5,6],[48])
 | 127,26=>some ([0,1,2,3,4,5,6,7],[77])
 | 127,28=>some ([0,1,2,3,4,5,6,7],[86])
 | 135,5=>some ([0,1,2,3,4,5,6,7],[16])
 | _,_=>none
def mask:Nat -> Nat -> List Nat
 | 6,3=>[0,0,2,1,15]
 | 10,2=>[0,0,2,7,15,0,31,127]
 | 14,12=>[0,1,0,4,15,31,63]
 | 14,22=>[0,1,0,4,15,31,63]
 | 14,27=>[0,1,0,4,15,31,63]
 | 24,3=>[0,1,3,7,0,16,48,112,0,496,1023,2047,0,8191]
 | 27,3=>[0,1,0,4,12,31,63,127]
 | 33,10=>[0,1,0,4,12,31,63,127]
 | 33,12=>[0,1,0,4,12,31,63,127]
 | 59,5=>[0,1,0,4,15,31,63]
 | 59,13=>[0,1,0,4,15,31,63]
 | 63,3=>[0,1,3,7,0,16,48,112,255,511,0,2047]
 | 89,11=>[0,1,0,4,15,31]
 | 95,18=>[0,1,0,4,12,31,63,127]
 | 95,37=>[0,1,0,4,12,31,63,127]
 | 95,45=>[0,1,0,4,12,31,63,127]
 | 101,4=>[0,1,0,4,12,31,63,127]
 | 102,9=>[0,1,0,4,12,31,63,127]
 | 102,14=>[0,1,0,4,12,31,63,127]
 | 112,5=>[0,1,0,4,12,31,63,127]
 | 112,7=>[0,1,0,4,12,31,63,127]
 | 115,7=>[0,1,3,7,0,16,48,112,255,511,1023,0,2048,8191,0,32767]
 | 115,9=>[0,0,2,0,0,16,56,127,0,511]
 | 122,5=>[0,1,0,4,0,16,63,0,255]
 | 122,8=>[0,1,0,4,15,31,63]
 | 122,12=>[0,1,0,4,0,16,63,127]
 | 122,14=>[0,1,0,4,15,31,63]
 | 127,26=>[0,1,0,4,12,31,63,127]
 | 127,28=>[0,1,0,4,12,31,63,127]
 | 135,5=>[0,1,0,4,12,31,63,127]
 | _,_=>[]
def okL:List Nat:=[3,4,6,8,10,11,13,14,15,16,24,25,26,27,28,29,30,31,32,33,34,35,57,58,59,60,61,62,63,64,65,66,67,87,88,89,90,94,95,100,101,102,103,104,105,112,113,114,115,121,122,127,128,135,136,137]
def b8H:List Nat:=[11]
def b1R:List Nat:=[3,4,5,6,7,16,35,67,94,105,114,126]
def b3R:List Nat:=[]
def tagL:List Nat:=[28,31,59,61,87,103] ++ b2s
def argL:List Nat:=[] ++ b2s
theorem tys:tysB Tryz.prog T = true:=by kernel_rfl
theorem mixed:Tryz.prog.follows .mixedOrders = true:=by kernel_rfl
def b4R:Nat -> Option Hand
 | 56=>some (.plain b6B)
 | 126=>some (.plain b8b)
 | 12=>some (.via gPre b6v)
 | _=>none
noncomputable def b0s:Env:={ P:=Tryz.prog,T:=T,keep:=keep,byref:=fun _ _=>none,meth:=fun _ _=>none,tags:=fun g=>has g tagL,argTags:=fun g=>has g argL,quiet:=fun g=>has g b1R,loose:=fun _=>false,ok:=fun g=>has g okL,cut:=cut,b1c:=b1c,a6x:=a6x,sep:=sep,mask:=mask,look:=fun g=>has g b8H,frz:=fun g=>has g b3R,slk:=slk,full:=true,intr:=b4R }
theorem b9D:b1I b0s okL = true:=by kernel_rfl
theorem b7E:a8l b0s:=by
 intro _ _ _ h
 cases h
theorem envOk0:a7L b0s:=⟨b7E,b08 tys,mixed,a8O (fun _ h=>h) b9D,(fun g h hg=>by simp only [b0s,b4R] at hg; first | (cases hg; done) | (split at hg <;> first | (cases hg; done) | (cases hg; exact b4g) | (cases hg; exact b6c))),(fun g pre post hg=>by simp only [b0s,b4R] at hg; first | (cases hg; done) | (split at hg <;> first | (cases hg; done) | (cases hg; exact a7P)))⟩
end Go.Proofs.YtlfomdllnidliaaGreatDoor
namespace Go.Proofs.YtlfomdllnidliaaGreatDoor.Aw
open Go Go.Vm
structure Flt where
 code:Int
 at_:Int
def c1Flt (x:Flt):List V:=[.i x.code,.i x.at_]
def a97:List Flt -> List V
 | []=>[]
 | x :: r=>.i x.code :: .i x.at_ :: a97 r
theorem b7m:a18 2 c1Flt a97:=⟨fun _=>rfl,rfl,fun _ _=>rfl⟩
structure Typ where
 kind:Int
 name:Str
 n:Int
 args:List Typ
mutual
def Typ.sub:Typ -> List V
 | ⟨_,_,_,a3⟩=>p9 a3
def p9:List Typ -> List V
 | []=>[]
 | x :: r=>.i x.kind :: .str x.name :: .i x.n :: .slice .sealed (List.length x.args) (x.sub) :: p9 r
end
def c1Typ (x:Typ):List V:=[.i x.kind,.str x.name,.i x.n,.sl p9 x.args]
theorem b0r:a18 4 c1Typ p9:=⟨fun _=>rfl,rfl,fun x r=>by cases x; rfl⟩
structure Nod where
 op:Int
 s:Str
 n:Int
 t:Typ
 ts:List Typ
 l:List Nod
 at_:Int
mutual
def Nod.sub:Nod -> List V
 | ⟨_,_,_,_,_,a5,_⟩=>F6 a5
def F6:List Nod -> List V
 | []=>[]
 | x :: r=>.i x.op :: .str x.s :: .i x.n :: .i x.t.kind :: .str x.t.name :: .i x.t.n :: .sl p9 x.t.args :: .sl p9 x.ts :: .slice .sealed (List.length x.l) (x.sub) :: .i x.at_ :: F6 r
end
def a96 (x:Nod):List V:=(c0 x.op x.s x.n x.t.kind x.t.name x.t.n (.sl p9 x.t.args) (.sl p9 x.ts) (.sl F6 x.l) x.at_)
theorem U0:a18 10 a96 F6:=⟨fun _=>rfl,rfl,fun x r=>by cases x; rfl⟩
end Go.Proofs.YtlfomdllnidliaaGreatDoor.Aw
namespace Go.Proofs.YtlfomdllnidliaaGreatDoor.Aw
open Go Go.Vm
def T:List (Nat × Ty):=[
 (1,⟨.func,1,8,[.nilFunc]⟩),
 (2,⟨.int .i64,1,8,[.i 0]⟩),
 (3,⟨.int .i64,1,8,[.i 0]⟩),
 (4,⟨.bool,1,1,[.bool false]⟩),
 (5,⟨.int .u8,1,1,[.int .u8 0]⟩),
 (9,⟨.string,1,16,[.str []]⟩),
 (24,⟨.slice 26,1,24,[.slice .nil 0 []]⟩),
 (26,⟨.struct [(3,0),(9,1),(3,2),(24,3)],4,56,[.i 0,.str [],.i 0,.slice .nil 0 []]⟩),
 (27,⟨.slice 29,1,24,[.slice .nil 0 []]⟩),
 (29,⟨.struct [(3,0),(9,1),(3,2),(26,3),(24,7),(27,8),(3,9)],10,144,[.i 0,.str [],.i 0,.i 0,.str [],.i 0,.slice .nil 0 [],.slice .nil 0 [],.slice .nil 0 [],.i 0]⟩),
 (30,⟨.slice 36,1,24,[.slice .nil 0 []]⟩),
 (33,⟨.slice 41,1,24,[.slice .nil 0 []]⟩),
 (34,⟨.int .i64,1,8,[.i 0]⟩),
 (36,⟨.struct [(34,0),(3,1)],2,16,[.i 0,.i 0]⟩),
 (41,⟨.struct [(3,0),(9,1),(3,2),(3,3)],4,40,[.i 0,.str [],.i 0,.i 0]⟩),
 (44,⟨.ptr 48,1,8,[.nilptr]⟩),
 (48,⟨.struct [(33,0),(3,1),(3,2)],3,40,[.slice .nil 0 [],.i 0,.i 0]⟩),
 (55,⟨.ptr 59,1,8,[.nilptr]⟩),
 (57,⟨.struct [(9,0),(3,1)],2,24,[.str [],.i 0]⟩),
 (59,⟨.struct [(57,0),(33,2),(36,3)],5,64,[.str [],.i 0,.slice .nil 0 [],.i 0,.i 0]⟩),
 (62,⟨.slice 5,1,24,[.slice .nil 0 []]⟩),
 (65,⟨.ptr 68,1,8,[.nilptr]⟩),
 (66,⟨.slice 9,1,24,[.slice .nil 0 []]⟩),
 (68,⟨.struct [(66,0)],1,24,[.slice .nil 0 []]⟩),
 (69,⟨.func,1,8,[.nilFunc]⟩),
 (71,⟨.iface,1,16,[.nilIface]⟩),
 (77,⟨.struct [(36,0)],2,16,[.i 0,.i 0]⟩),
 (85,⟨.func,1,8,[.nilFunc]⟩),
 (88,⟨.map 3 9,1,8,[.opq]⟩),
 (90,⟨.func,1,8,[.nilFunc]⟩),
 (96,⟨.ptr 57,1,8,[.nilptr]⟩),
 (99,⟨.array 32 9,32,512,[.str [],.str [],.str [],.str [],.str [],.str [],.str [],.str [],.str [],.str [],.str [],.str [],.str [],.str [],.str [],.str [],.str [],.str [],.str [],.str [],.str [],.str [],.str [],.str [],.str [],.str [],.str [],.str [],.str [],.str [],.str [],.str []]⟩),
 (101,⟨.array 27 9,27,432,[.str [],.str [],.str [],.str [],.str [],.str [],.str [],.str [],.str [],.str [],.str [],.str [],.str [],.str [],.str [],.str [],.str [],.str [],.str [],.str [],.str [],.str [],.str [],.str [],.str [],.str [],.str []]⟩),
 (104,⟨.slice 3,1,24,[.slice .nil 0 []]⟩),
 (117,⟨.slice 124,1,24,[.slice .nil 0 []]⟩),
 (124,⟨.struct [(66,0),(4,1)],2,32,[.slice .nil 0 [],.bool false]⟩),
 (146,⟨.array 24 5,24,24,[.int .u8 0,.int .u8 0,.int .u8 0,.int .u8 0,.int .u8 0,.int .u8 0,.int .u8 0,.int .u8 0,.int .u8 0,.int .u8 0,.int .u8 0,.int .u8 0,.int .u8 0,.int .u8 0,.int .u8 0,.int .u8 0,.int .u8 0,.int .u8 0,.int .u8 0,.int .u8 0,.int .u8 0,.int .u8 0,.int .u8 0,.int .u8 0]⟩),
 (147,⟨.int .u64,1,8,[.int .u64 0]⟩),
 (167,⟨.int .i64,1,8,[.i 0]⟩)]
def keep:Nat -> Nat -> List Nat
 | 6,7=>[2,4,6,7,8]
 | 16,3=>[2,3,9,10,11]
 | 17,2=>[0,1,2,7]
 | 18,13=>[0,48,49,50]
 | 18,21=>[0,69,70,71]
 | 18,37=>[0,118,119,120]
 | 31,4=>[0,3]
 | 36,0=>[0]
 | 45,3=>[0,3,4]
 | 49,3=>[1,5,11,12,13]
 | 49,6=>[1,5,7,11,12,13,17,18,19]
 | 52,5=>[0,3,23,24,25]
 | 52,15=>[0,52,53,54]
 | 60,8=>[0,2,3]
 | 61,4=>[0,3]
 | 67,2=>[0,1,7,8]
 | 70,2=>[0,1,5]
 | 74,2=>[0,1,5,6]
 | 76,1=>[0,2,8,9,10]
 | 79,3=>[0,10,11,12]
 | 87,5=>[0,3]
 | 89,5=>[0,1,4,5,6]
 | 89,9=>[0,1,4,7]
 | 90,2=>[0,3]
 | 91,40=>[0,140,141,142]
 | 115,3=>[0,2,6,7,14,15]
 | 115,6=>[0,2,6,7,9,14,15]
 | 122,4=>[0,2,3,4]
 | 127,27=>[0,2,3]
 | 133,10=>[5,6,47,48,49]
 | _,_=>[]
def cut:Nat -> Nat -> Bool
 | _,_=>false
def b2s:List Nat:=[7,10,11,13,14,16,17,18,20,24,27,28,29,30,31,34,36,37,39,42,44,45,46,47,48,49,52,53,54,57,59,60,61,62,63,64,65,69,70,73,74,75,76,79,80,81,82,87,88,89,90,91,92,94,95,96,104,106,113,114,115,121,122,126,127,133]
def b1c:Nat -> Nat -> Bool
 | f,_=>has f b2s
def a6x:Nat -> Nat -> Bool
 | f,_=>has f b2s
def slk:Nat -> Nat -> List (Nat × Nat)
 | _,_=>[]
def sep:Nat -> Nat -> Option (List Nat × List Nat)
 | 6,3=>some ([0,1,2,3,4],[5,1000002])
 | 10,2=>some ([0,1,2,3,5,4,6,7],[5])
 | 14,12=>some ([0,1,2,3,4,5,6],[30])
 | 14,22=>some ([0,1,2,3,4,5,6],[64])
 | 14,27=>some ([0,1,2,3,4,5,6],[79])
 | 24,3=>some ([0,1,2,3,4,5,6,7,8,9,10,11,12,13],[32,28,24])
 | 27,3=>some ([0,1,2,3,4,5,6,7],[7])
 | 59,5=>some ([0,1,2,3,4,5,6],[15])
 | 59,13=>some ([0,1,2,3,4,5,6],[41])
 | 63,3=>some ([0,1,2,3,4,5,6,7,8,9,10,11],[20,18,14])
 | 89,11=>some ([0,2,3,1,4,5],[7])
 | 95,18=>some ([0,1,2,3,4,5,6,7],[56])
 | 95,37=>some ([0,1,2,3,4,5,6,7],[112])
 | 95,45=>some ([0,1,2,3,4,5,6,7],[144])
 | 115,7=>some ([0,1,2,3,4,5,6,7,8,9,10,11,12,13,14,15],[77,75,72,68])
 | 115,9=>some ([0,1,3,4,5,6,2,7,8,9],[])
 | 122,5=>some ([0,2,3,4,5,1,6,7,8],[4,17])
 | 122,8=>some ([0,1,2,3,4,5,6],[25])
 | 122,12=>some ([0,1,2,3,4,5,6,7],[38,36])
 | 122,14=>some ([0,1,2,3,4,5,6],[48])
 | 127,26=>some ([0,1,2,3,4,5,6,7],[77])
 | 127,28=>some ([0,1,2,3,4,5,6,7],[86])
 | _,_=>none
def mask:Nat -> Nat -> List Nat
 | 6,3=>[0,0,2,1,15]
 | 10,2=>[0,0,2,7,15,0,31,127]
 | 14,12=>[0,1,0,4,15,31,63]
 | 14,22=>[0,1,0,4,15,31,63]
 | 14,27=>[0,1,0,4,15,31,63]
 | 24,3=>[0,1,3,7,0,16,48,112,0,496,1023,2047,0,8191]
 | 27,3=>[0,1,0,4,12,31,63,127]
 | 59,5=>[0,1,0,4,15,31,63]
 | 59,13=>[0,1,0,4,15,31,63]
 | 63,3=>[0,1,3,7,0,16,48,112,255,511,0,2047]
 | 89,11=>[0,1,0,4,15,31]
 | 95,18=>[0,1,0,4,12,31,63,127]
 | 95,37=>[0,1,0,4,12,31,63,127]
 | 95,45=>[0,1,0,4,12,31,63,127]
 | 115,7=>[0,1,3,7,0,16,48,112,255,511,1023,0,2048,8191,0,32767]
 | 115,9=>[0,0,2,0,0,16,56,127,0,511]
 | 122,5=>[0,1,0,4,0,16,63,0,255]
 | 122,8=>[0,1,0,4,15,31,63]
 | 122,12=>[0,1,0,4,0,16,63,127]
 | 122,14=>[0,1,0,4,15,31,63]
 | 127,26=>[0,1,0,4,12,31,63,127]
 | 127,28=>[0,1,0,4,12,31,63,127]
 | _,_=>[]
def okL:List Nat:=[5,6,7,10,11,13,14,16,17,18,20,24,27,28,29,30,31,34,35,36,37,39,41,42,43,44,45,46,47,48,49,52,53,54,57,59,60,61,62,63,64,65,67,68,69,70,72,73,74,75,76,79,80,81,82,87,88,89,90,91,92,94,95,96,104,106,113,114,115,116,121,122,123,126,127,129,133,138]
def b8H:List Nat:=[11]
def b1R:List Nat:=[5,6,9,35,41,43,67,68,72,116,123,129,138]
def b3R:List Nat:=[]
def tagL:List Nat:=[] ++ b2s
def argL:List Nat:=[] ++ b2s
theorem tys:tysB Tryz.prog T = true:=by kernel_rfl
theorem mixed:Tryz.prog.follows .mixedOrders = true:=by kernel_rfl
def b4R:Nat -> Option Hand
 | 56=>some (.plain b6B)
 | 12=>some (.via gPre b6v)
 | _=>none
noncomputable def b0s:Env:={ P:=Tryz.prog,T:=T,keep:=keep,byref:=fun _ _=>none,meth:=fun _ _=>none,tags:=fun g=>has g tagL,argTags:=fun g=>has g argL,quiet:=fun g=>has g b1R,loose:=fun _=>false,ok:=fun g=>has g okL,cut:=cut,b1c:=b1c,a6x:=a6x,sep:=sep,mask:=mask,look:=fun g=>has g b8H,frz:=fun g=>has g b3R,slk:=slk,full:=true,intr:=b4R }
theorem b9D:b1I b0s okL = true:=by kernel_rfl
theorem b7E:a8l b0s:=by
 intro _ _ _ h
 cases h
theorem envOk0:a7L b0s:=⟨b7E,b08 tys,mixed,a8O (fun _ h=>h) b9D,(fun g h hg=>by simp only [b0s,b4R] at hg; first | (cases hg; done) | (split at hg <;> first | (cases hg; done) | (cases hg; exact b4g))),(fun g pre post hg=>by simp only [b0s,b4R] at hg; first | (cases hg; done) | (split at hg <;> first | (cases hg; done) | (cases hg; exact a7P)))⟩
end Go.Proofs.YtlfomdllnidliaaGreatDoor.Aw
namespace Go.Vm
open Go
variable {env:Env}
def rho0:Rho:=⟨fun _=>none,fun _ _=>none⟩
def lab0:Lab:=fun _ _=>none
theorem rho0_le (ρ:Rho):rho0.le ρ:=⟨fun _ _ h=>(by cases h),fun _ _ _ h=>(by cases h)⟩
def b35 (B:Nat):Rho:=⟨fun k=>if k = 0 then some (some (B,0),none) else none,fun k n=>if k = 1 /\ n = 0 then some (none,0) else none⟩
def a3w (B:Nat):Lab:=fun b o=>if b = B /\ o = 0 then some (some 0) else none
def hp1:Hp:=[(0,.row [.slice (.tag 1) 0 []]),(1,.tip 0 0)]
theorem old_rel {w0 w:World} {B:Nat} (hB:w0.heap.size <= B) (hk:∀ b,b < w0.heap.size -> w.heap[b]? = w0.heap[b]?) {v:V} {x:Value} (h:Rel rho0 lab0 w0 v x):Rel (b35 B) (a3w B) w v x:=by
 have h1:Rel rho0 (a3w B) w v x:=by
  refine h.carry fun b o x h=>?_
  have hb:=a1h h.cell
  refine ⟨?_,?_⟩
  ·simp only [a3w]
   rw [if_neg (by omega)]
  ·simp only [cellAt,World.cell?,hk b hb]
   exact h.cell
 exact h1.ext (Ext.refl _ _) (rho0_le _)
theorem sim1 {w:World} {B:Nat} (hc:w.cell? ⟨B,0,none⟩ = some (.slice none 0 0)) (hz:w.frozen? ⟨B,0,none⟩ = false):Sim (b35 B) (a3w B) hp1 w where
 row:=fun k cs h=>by
  have:k = 0 /\ cs = [.slice (.tag 1) 0 []]:=by
   simp only [hp1,hget] at h
   split at h
   ·rename_i hb; cases h; exact ⟨(Nat.eq_of_beq_eq_true hb).symm,rfl⟩
   ·split at h
    ·cases h
    ·cases h
  obtain ⟨rfl,rfl⟩:=this
  refine ⟨B,0,[.slice none 0 0],by simp [b35],?_,fun i x hx=>?_⟩
  ·refine J3.2 ⟨_,_,rfl,.slice _ 0 [] [] 0 0 none 0 rfl (Nat.le_refl _) (fun h=>by omega) (fun _=>rfl) (fun i x h=>by simp at h) (fun i v x h=>by simp at h) (by simp [b35]) (by simp) (by simp),⟨rfl,by simp⟩⟩
  ·match i,hx with
   | 0,hx =>
    cases hx
    exact ⟨⟨by simp [a3w],hz,_,hc⟩,hc⟩
   | i + 1,hx=>simp at hx
 grow:=fun k e cs h=>by
  simp only [hp1,hget] at h
  split at h
  ·cases h
  ·split at h <;> cases h
 tip:=fun k e n h=>by
  have:k = 1 /\ e = 0 /\ n = 0:=by
   simp only [hp1,hget] at h
   split at h
   ·cases h
   ·split at h
    ·rename_i hb; cases h; exact ⟨(Nat.eq_of_beq_eq_true hb).symm,rfl,rfl⟩
    ·cases h
  obtain ⟨rfl,rfl,rfl⟩:=this
  exact ⟨none,0,by simp [b35],Nat.le_refl _,fun _=>rfl,fun _=>rfl,fun a h=>by cases h⟩
 mp:=fun k es h=>by
  simp only [hp1,hget] at h
  split at h
  ·cases h
  ·split at h <;> cases h
 hdom:=fun k n x h=>by
  simp only [b35] at h
  split at h
  ·rename_i hk
   obtain ⟨rfl,rfl⟩:=hk
   exact ⟨0,0,rfl,Nat.le_refl _⟩
  ·cases h
 adom:=fun k x h=>by
  simp only [b35] at h
  split at h
  ·rename_i hk
   subst hk
   simp [hp1,hget]
  ·cases h
 ldom:=fun b o k h=>by
  simp only [a3w] at h
  split at h
  ·rename_i hb
   obtain ⟨rfl,rfl⟩:=hb
   exact a1h hc
  ·cases h
theorem b2Q {w w':World} {B:Nat} {lab':Lab} (E:Ext (a3w B) w lab' w'):Wrote B w w' :=
 ⟨E.size,E.os,E.tape,E.output,fun b hb hn=>E.blk b hb (fun o k h=>by
  simp only [a3w] at h
  rw [if_neg (fun h=>hn h.1)] at h
  cases h)⟩
theorem c2b (hE:a7L env) {g1 g2:Nat} {c:V} {H1 H2:Hp} {s:List UInt8}
  (h1:E env (.call g1 [.ptr 0 0,c]) hp1 = some (.ret (.tuple []) H1)) (h2:E env (.call g2 [.ptr 0 0]) H1 = some (.ret (.str s) H2))
  {w0 w:World} {B:Nat} (hB:w0.heap.size <= B) (hk:∀ b,b < w0.heap.size -> w.heap[b]? = w0.heap[b]?) (hc:w.cell? ⟨B,0,none⟩ = some (.slice none 0 0)) (hz:w.frozen? ⟨B,0,none⟩ = false) {x:Value} (hx:Rel rho0 lab0 w0 c x) :
  Calls env.P g1 #[.pointer (some ⟨B,0,none⟩),x] w fun e w1=>e = .returned (.tuple #[]) /\ Wrote B w w1 /\
   Calls env.P g2 #[.pointer (some ⟨B,0,none⟩)] w1 fun e w2=>e = .returned (.string ⟨⟨s⟩⟩) /\ Wrote B w w2:=by
 obtain ⟨k1,hk1⟩:=(a2N env).at_ _ _ _ h1
 obtain ⟨k2,hk2⟩:=(a2N env).at_ _ _ _ h2
 have hS:=sim1 hc hz
 have hp:Rel (b35 B) (a3w B) w (.ptr 0 0) (.pointer (some ⟨B,0 + 0,none⟩)):=.ptr 0 0 B 0 none (by simp [b35])
 have hL:M6 (b35 B) (a3w B) w [.ptr 0 0,c] [.pointer (some ⟨B,0,none⟩),x]:=J3.2 ⟨_,_,rfl,hp,J3.2 ⟨_,_,rfl,old_rel hB hk hx,⟨rfl,by simp⟩⟩⟩
 have C1:=(b5D hE k1).1.call g1 _ _ _ hk1 (b35 B) (a3w B) w _ ⟨rfl,rfl,trivial⟩ hS hL
 refine C1.mono fun e w1 hP=>?_
 cases e with
 | returned v =>
  obtain ⟨ρ',lab',s1,s2,s3,s4,s5,s6⟩:=hP
  have hv:v = .tuple #[]:=by
   cases s4 with
   | tuple _ zs h1 h2 =>
    have:zs = []:=by simpa using h1
    subst this; rfl
  refine ⟨by rw [hv],b2Q s2,?_⟩
  have ha:ρ'.at_ 0 = some (some (B,0),none):=s3.at_ 0 _ (by decide) (by simp [b35])
  have hp2:Rel ρ' lab' w1 (.ptr 0 0) (.pointer (some ⟨B,0 + 0,none⟩)):=.ptr 0 0 B 0 none ha
  have hL2:M6 ρ' lab' w1 [.ptr 0 0] [.pointer (some ⟨B,0,none⟩)]:=J3.2 ⟨_,_,rfl,hp2,⟨rfl,by simp⟩⟩
  have C2:=(b5D hE k2).1.call g2 _ _ _ hk2 ρ' lab' w1 _ s5 s1 hL2
  refine C2.mono fun e w2 hP=>?_
  cases e with
  | returned v2 =>
   obtain ⟨ρ2,lab2,t1,t2,t3,t4,t5,t6⟩:=hP
   have hv2:v2 = .string ⟨⟨s⟩⟩:=by cases t4; rfl
   exact ⟨by rw [hv2],b2Q (s2.trans t2)⟩
  | panicked ch=>exact hP.elim
  | outgrown=>exact hP.elim
 | panicked ch=>exact hP.elim
 | outgrown=>exact hP.elim
end Go.Vm
namespace Go.Proofs.YtlfomdllnidliaaGreatDoor.Aw
open Go Go.Vm Go.RowKit Go.Lib
theorem nf_rel0 {ρ:Rho} {lab:Lab} {w:World} {v:V} {x:Value} (h:Rel ρ lab w v x) (hn:NF v):Rel rho0 lab0 w v x:=NF.rel (fun _ _ _=>rfl) h hn
theorem a8U {p:Prop} (h:p):Hid p:=h
def b28 (c:List V) (s:List UInt8):Prop:=∃ H1 H2,E b0s (.call 18 [.ptr 0 0,.agg c]) hp1 = some (.ret (.tuple []) H1) /\ E b0s (.call 20 [.ptr 0 0]) H1 = some (.ret (.str s) H2)
def printed (l:List (List UInt8)):List UInt8:=(l.map (· ++ [10])).flatten
theorem b7T {l:List (List UInt8)} {k:Nat} {s:List UInt8} (h:l[k]? = some s):printed (l.take (k + 1)) = printed (l.take k) ++ s ++ [10]:=by
 unfold printed
 rw [List.take_add_one,h]
 simp
theorem b92 (l:List (List UInt8)) (k:Nat):(printed (l.take k)).length <= (printed l).length:=by
 have h:printed l = printed (l.take k) ++ printed (l.drop k):=by
  unfold printed
  rw [<- List.flatten_append,<- List.map_append,List.take_append_drop]
 rw [h,List.length_append]; omega
theorem bld_kept {T e:TypeId} {B0 b:Nat} {bs:List Value} {w w':World} (h:IsBuilder T e B0 b bs w) (hk:∀ k,k < w.heap.size -> w'.heap[k]? = w.heap[k]?):IsBuilder T e B0 b bs w':=by
 have key:∀ {p:Value},BuilderAt T e B0 b p bs w -> BuilderAt T e B0 b p bs w':=by
  rintro p ⟨h1,v,h2,h3,h4⟩
  have hb:b < w.heap.size:=by
   rcases Nat.lt_or_ge b w.heap.size with h | h
   ·exact h
   ·rw [Array.getElem?_eq_none h] at h2; cases h2
  refine ⟨h1,v,(hk b hb).trans h2,?_,h4⟩
  refine ⟨h3.1,?_⟩
  rcases h3.2 with h5 | ⟨g,cap,cur,h5,h6,h7,h8⟩
  ·exact .inl h5
  ·have hg:g < w.heap.size:=by
    rcases Nat.lt_or_ge g w.heap.size with h | h
    ·exact h
    ·rw [Array.getElem?_eq_none h] at h7; cases h7
   exact .inr ⟨g,cap,cur,h5,h6,(hk g hg).trans h7,h8⟩
 rcases h with h | h
 ·exact .inl (key h)
 ·exact .inr (key h)
theorem b8p (T e:TypeId) (B0:Nat) (w:World) (hB:B0 <= w.heap.size):IsBuilder T e B0 w.heap.size [] (w.alloc (.cells #[.pointer none,.slice none 0 0] T)):=by
 have key:∀ {p:Value},BuilderAt T e w.heap.size w.heap.size p [] (w.alloc (.cells #[.pointer none,.slice none 0 0] T)) -> BuilderAt T e B0 w.heap.size p [] (w.alloc (.cells #[.pointer none,.slice none 0 0] T)):=by
  rintro p ⟨h1,v,h2,h3,h4⟩
  refine ⟨hB,v,h2,⟨h3.1,?_⟩,h4⟩
  rcases h3.2 with h5 | ⟨g,cp,cur,h5,h6,r⟩
  ·exact .inl h5
  ·exact .inr ⟨g,cp,cur,h5,by omega,r⟩
 rcases fresh_isBuilder T e w with h | h
 ·exact .inl (key h)
 ·exact .inr (key h)
structure Kid (w:World) (b o:Nat) (s:List UInt8) (k:Nat):Prop where
 ex:∃ c y0 y1 y2 y3 y4 y5 y6 y7 y8 y9,w.cell? ⟨b,o + k * 10,none⟩ = some y0 /\ w.cell? ⟨b,o + k * 10 + 1,none⟩ = some y1 /\ w.cell? ⟨b,o + k * 10 + 2,none⟩ = some y2 /\ w.cell? ⟨b,o + k * 10 + 3,none⟩ = some y3 /\
  w.cell? ⟨b,o + k * 10 + 4,none⟩ = some y4 /\ w.cell? ⟨b,o + k * 10 + 5,none⟩ = some y5 /\ w.cell? ⟨b,o + k * 10 + 6,none⟩ = some y6 /\ w.cell? ⟨b,o + k * 10 + 7,none⟩ = some y7 /\ w.cell? ⟨b,o + k * 10 + 8,none⟩ = some y8 /\ w.cell? ⟨b,o + k * 10 + 9,none⟩ = some y9 /\
  Rel rho0 lab0 w (.agg c) (.agg #[y0,y1,y2,y3,y4,y5,y6,y7,y8,y9]) /\ b28 c s /\ ∀ y ∈ [y0,y1,y2,y3,y4,y5,y6,y7,y8,y9],y.oneCell' = true
theorem b9u {a b:Nat} {w w':World} (h:a <= b) (hB:Below b w w'):Below a w w':=⟨hB.os,hB.tape,hB.output,hB.size,fun k hk=>hB.block k (by omega)⟩
theorem b62 (w:World) (cs:Array Value) (t:TypeId) (i:Nat) (v:Value) (hi:i < cs.size) (hv:v.oneCell' = true):(store ⟨w.heap.size,i,none⟩ v).run Tryz.prog (w.alloc (.cells cs t)) = .ok () (w.alloc (.cells (cs.setIfInBounds i v) t)):=by
 have h1:(w.alloc (.cells cs t)).cell? ⟨w.heap.size,i,none⟩ = some cs[i]:=by simp [hi]
 have h2:(w.alloc (.cells cs t)).frozen? ⟨w.heap.size,i,none⟩ = false:=by simp
 rw [run_store _ _ _ _ _ hv]
 simp [stored,go_sem,h1,h2,World.setCell_alloc_new]
theorem b91 (v0 v1 v2 v3 v4 v5 v6 v7 v9:Value) (ao:Option Addr) (b o cap:Nat) (l:List (List UInt8)) (w:World) (hn:l.length <= cap) (hao:0 < l.length -> ao = some ⟨b,o,none⟩)
  (hb:0 < l.length -> b < w.heap.size) (hN:l.length <= 140737488355328) (hK:∀ (k:Nat) s,l[k]? = some s -> Kid w b o s k) (hlen:(printed l).length <= 140737488355328) :
  Calls Tryz.prog 9 #[.agg #[v0,v1,v2,v3,v4,v5,v6,v7,.slice ao l.length cap,v9]] w fun e w'=>e = .returned (.string ⟨(printed l).toArray⟩) /\ Below w.heap.size w w':=by
 have HK:=a8U hK
 have Hlen:=a8U hlen
 have Hao:=a8U hao
 have Hb:=a8U hb
 clear hK hlen hao hb
 go_enter Tryz.func9,Tryz.ntmps9
 go_wp2_with fail
 go_loopw [10] (fun i wr=>∃ k:Nat,k <= l.length /\ i = .int .i64 k /\ Hid (IsBuilder 64 5 w.heap.size (w.heap.size + 1) (byteCells (printed (l.take k))) wr) /\ Hid (Below w.heap.size w wr)) (fun i _=>l.length - (RowKit.intOf i).toNat)
 case atStart =>
  refine ⟨0,Nat.zero_le _,rfl,a8U ?_,a8U ?_⟩
  ·have:=b8p 64 5 w.heap.size (w.alloc (.cells #[v0,v1,v2,v3,v4,v5,v6,v7,.slice ao l.length cap,v9] 29)) (by rw [World.size_alloc]; omega)
   rw [World.size_alloc] at this
   exact this
  ·exact ((Below.refl w.heap.size w).alloc (Nat.le_refl _) _).alloc (by rw [World.size_alloc]; omega) _
 case round =>
  obtain ⟨k,hk,rfl,HB,HW⟩:=hrel
  by_cases hkn:k < l.length
  ·obtain ⟨s,hs⟩:∃ s,l[k]? = some s:=⟨l[k],List.getElem?_eq_getElem hkn⟩
   have hao:=Hao.out (by omega)
   subst hao
   have hbw:=Hb.out (by omega)
   obtain ⟨c,y0,y1,y2,y3,y4,y5,y6,y7,y8,y9,c0,c1,c2,c3,c4,c5,c6,c7,c8,c9,hr,hline,hone⟩:=(HK.out k s hs).ex
   have cc:∀ j,wr.cell? ⟨b,j,none⟩ = w.cell? ⟨b,j,none⟩:=fun j=>HW.out.cell (p:=⟨b,j,none⟩) hbw
   rw [<- cc] at c0 c1 c2 c3 c4 c5 c6 c7 c8 c9
   obtain ⟨H1,H2,q1,q2⟩:=hline
   have Q1:=a8U q1
   have Q2:=a8U q2
   have HR:=a8U hr
   have Hs:=a8U hs
   have hBw:=HW.out.size
   clear q1 q2 hr hs cc
   go_wp2_with fail
   rw [b62 _ _ _ _ _ (by simp) (hone _ (by simp))]
   simp only [Result.andThen]
   repeat (rw [b62 _ _ _ _ _ (by simp) (hone _ (by simp))]; simp only [Result.andThen])
   have hset:((((((((((#[Value.int .i64 0,.string { data:=#[] },.int .i64 0,.int .i64 0,.string { data:=#[] },.int .i64 0,.slice none 0 0,.slice none 0 0,.slice none 0 0,.int .i64 0].setIfInBounds 0 y0).setIfInBounds 1 y1).setIfInBounds 2 y2).setIfInBounds 3 y3).setIfInBounds 4 y4).setIfInBounds 5 y5).setIfInBounds 6 y6).setIfInBounds 7 y7).setIfInBounds 8 y8).setIfInBounds 9 y9) = #[y0,y1,y2,y3,y4,y5,y6,y7,y8,y9]:=by simp
   rw [hset]
   clear hset
   go_wp2_with fail
   have hsz:((wr.alloc (.cells #[y0,y1,y2,y3,y4,y5,y6,y7,y8,y9] 29)).alloc (.cells #[.slice none 0 0] 68)).heap.size = wr.heap.size + 2:=by rw [World.size_alloc,World.size_alloc]
   have hold:∀ j,j < wr.heap.size -> ((wr.alloc (.cells #[y0,y1,y2,y3,y4,y5,y6,y7,y8,y9] 29)).alloc (.cells #[.slice none 0 0] 68)).heap[j]? = wr.heap[j]?:=fun j hj =>
    (alloc_old _ _ j (by rw [World.size_alloc]; omega)).trans (alloc_old _ _ j hj)
   have hcW:((wr.alloc (.cells #[y0,y1,y2,y3,y4,y5,y6,y7,y8,y9] 29)).alloc (.cells #[.slice none 0 0] 68)).cell? ⟨wr.heap.size + 1,0,none⟩ = some (.slice none 0 0):=by
    have:=World.cell?_alloc_new (wr.alloc (.cells #[y0,y1,y2,y3,y4,y5,y6,y7,y8,y9] 29)) #[.slice none 0 0] 68 0
    rw [World.size_alloc] at this
    exact this
   have hzW:((wr.alloc (.cells #[y0,y1,y2,y3,y4,y5,y6,y7,y8,y9] 29)).alloc (.cells #[.slice none 0 0] 68)).frozen? ⟨wr.heap.size + 1,0,none⟩ = false:=by
    have:=World.frozen?_alloc_new (wr.alloc (.cells #[y0,y1,y2,y3,y4,y5,y6,y7,y8,y9] 29)) #[.slice none 0 0] 68 0
    rw [World.size_alloc] at this
    exact this
   refine (c2b envOk0 Q1.out Q2.out (w0:=w) (w:=((wr.alloc (.cells #[y0,y1,y2,y3,y4,y5,y6,y7,y8,y9] 29)).alloc (.cells #[.slice none 0 0] 68))) (B:=wr.heap.size + 1) (by omega) (fun j hj=>(hold j (by omega)).trans (HW.out.block j hj)) hcW hzW HR.out).mono ?_
   rintro e w1 ⟨rfl,hw1,C2⟩
   have CC:=a8U C2
   clear C2 hcW hzW
   go_wp2_with fail
   refine CC.out.mono ?_
   rintro e w2 ⟨rfl,hw2⟩
   have hk2:∀ j,j < wr.heap.size -> w2.heap[j]? = wr.heap[j]?:=fun j hj=>(hw2.blk j (by omega) (by omega)).trans (hold j hj)
   have hs2:wr.heap.size <= w2.heap.size:=by have:=hw2.size; omega
   have hlen:=Hlen.out
   have hlk:=b92 l (k + 1)
   have hpt:=b7T Hs.out
   rw [hpt,List.length_append,List.length_append,List.length_singleton] at hlk
   have HB2:=a8U (bld_kept HB.out hk2)
   have HW2:=a8U (⟨hw2.os,hw2.tape,hw2.output,hs2,fun j hj=>hk2 j (by omega)⟩:Below wr.heap.size wr w2)
   have Hpt:=a8U hpt
   clear hw1 hw2 hk2 CC hold hsz hpt
   go_wp2_with fail
   refine (Tryz.Builder_WriteString w.heap.size (w.heap.size + 1) _ ⟨⟨s⟩⟩ w2 HB2.out (by rw [byteCells_length]; simp only [ByteArray.size]; simp; omega) (by omega)).mono ?_
   rintro e w3 ⟨rfl,h3,hb3⟩
   have H3:=a8U h3
   have Hb3:=a8U hb3
   clear h3 hb3
   go_wp2_with fail
   refine (Tryz.Builder_WriteByte w.heap.size (w.heap.size + 1) _ 10 w3 (.inr H3.out) (by rw [List.length_append,byteCells_length,strCells_length]; simp only [ByteArray.size]; simp; omega) (by have:=Hb3.out.size; omega)).mono ?_
   rintro e w4 ⟨rfl,h4,hb4⟩
   have hnext:byteCells (printed (l.take k)) ++ strCells ⟨⟨s⟩⟩ ++ [.int .u8 10] = byteCells (printed (l.take (k + 1))):=by
    rw [Hpt.out,strCells_eq,byteCells_append,byteCells_append]
    rfl
   rw [hnext] at h4
   have H4:=a8U (Or.inr h4:IsBuilder 64 5 w.heap.size (w.heap.size + 1) _ w4)
   have Hb4:=a8U ((HW.out.trans (b9u hBw HW2.out)).trans (Hb3.out.trans hb4))
   clear h4 hb4 hnext
   go_wp2
   exact ⟨⟨k + 1,by omega,by go_num,H4,Hb4⟩,by simp [RowKit.intOf]; omega⟩
  ·have hke:k = l.length:=by omega
   subst hke
   have hB':=HB.out
   rw [List.take_length] at hB'
   have hBw:=HW.out.size
   have HB2:=a8U hB'
   clear hB'
   go_wp2_with fail
   refine (Tryz.Builder_String_any w.heap.size (w.heap.size + 1) _ wr HB2.out hBw).mono ?_
   rintro e w5 ⟨rfl,hb5⟩
   have Hb5:=a8U (HW.out.trans hb5)
   clear hb5
   go_wp2
   go_ret
   exact ⟨rfl,Hb5.out⟩
theorem b9Q {c:List V} {s s':List UInt8} (h:b28 c s) (g:b28 c s'):s = s':=by
 obtain ⟨H1,H2,a1,a2⟩:=h
 obtain ⟨K1,K2,b1,b2⟩:=g
 rw [a1] at b1
 cases b1
 rw [a2] at b2
 cases b2
 rfl
inductive Lines:List V -> List (List UInt8) -> Prop
 | nil:Lines [] []
 | cons (c r:List V) (s:List UInt8) (l:List (List UInt8)):c.length = 10 -> b28 c s -> Lines r l -> Lines (c ++ r) (s :: l)
theorem Lines.det {cs:List V} {l:List (List UInt8)} (h:Lines cs l):∀ {l'},Lines cs l' -> l = l':=by
 induction h with
 | nil =>
  intro l' g
  generalize hq:([]:List V) = q at g
  cases g with
  | nil=>rfl
  | cons c r s l h1 h2 h3 =>
   have:=congrArg List.length hq
   rw [List.length_append] at this
   simp at this
   omega
 | cons c r s l h1 h2 h3 ih =>
  intro l' g
  generalize hq:c ++ r = q at g
  cases g with
  | nil =>
   have:=congrArg List.length hq
   rw [List.length_append,h1] at this
   simp only [List.length_nil] at this
   omega
  | cons c' r' s' l'' g1 g2 g3 =>
   obtain ⟨rfl,rfl⟩:=List.append_inj hq (by rw [h1,g1])
   rw [b9Q h2 g2,ih g3]
theorem Lines.get {cs:List V} {l:List (List UInt8)} (h:Lines cs l):∀ {k:Nat} {s:List UInt8},l[k]? = some s -> b28 ((cs.drop (k * 10)).take 10) s /\ k * 10 + 10 <= cs.length:=by
 induction h with
 | nil=>intro k s h; simp at h
 | cons c r s0 l h1 h2 h3 ih =>
  intro k s hk
  cases k with
  | zero =>
   simp only [List.getElem?_cons_zero,Option.some.injEq] at hk
   subst hk
   refine ⟨?_,by rw [List.length_append]; omega⟩
   rw [Nat.zero_mul,List.drop_zero,List.take_append_of_le_length (by omega),List.take_of_length_le (by omega)]
   exact h2
  | succ k =>
   simp only [List.getElem?_cons_succ] at hk
   obtain ⟨g1,g2⟩:=ih hk
   refine ⟨?_,by rw [List.length_append]; omega⟩
   rw [show (k + 1) * 10 = c.length + k * 10 from by omega,<- List.drop_drop,List.drop_left]
   exact g1
noncomputable def b1Q:List V -> Hp -> Option Out:=fun args H=>match args with
 | [.agg [_,_,_,_,_,_,_,_,.slice _ n cs,_]]=>@dite _ (∃ l,Lines cs l /\ l.length = n /\ l.length <= 140737488355328 /\ (printed l).length <= 140737488355328) (Classical.propDecidable _) (fun h=>some (.ret (.str (printed h.choose)) H)) (fun _=>none)
 | _=>none
theorem c1E {c0 c1 c2 c3 c4 c5 c6 c7 c9:V} {ow:Own} {n:Nat} {cs:List V} {l:List (List UInt8)} {H:Hp} (h:Lines cs l) (hn:l.length = n) (hN:l.length <= 140737488355328) (hl:(printed l).length <= 140737488355328) :
  b1Q [.agg [c0,c1,c2,c3,c4,c5,c6,c7,.slice ow n cs,c9]] H = some (.ret (.str (printed l)) H):=by
 have hex:∃ l,Lines cs l /\ l.length = n /\ l.length <= 140737488355328 /\ (printed l).length <= 140737488355328:=⟨l,h,hn,hN,hl⟩
 have he:hex.choose = l:=(h.det hex.choose_spec.1).symm
 simp only [b1Q]
 rw [dif_pos hex,he]
theorem ten {α:Type} (l:List α) (h:l.length = 10):∃ y0 y1 y2 y3 y4 y5 y6 y7 y8 y9,l = [y0,y1,y2,y3,y4,y5,y6,y7,y8,y9]:=by
 match l,h with
 | [y0,y1,y2,y3,y4,y5,y6,y7,y8,y9],_=>exact ⟨_,_,_,_,_,_,_,_,_,_,rfl⟩
theorem print_ok:b1A Tryz.prog 9 b1Q:=by
 refine ⟨fun args H out h ρ lab w xs hc hS hx=>?_,⟨_,_,Tryz.func9,rfl,rfl⟩⟩
 unfold b1Q at h
 split at h
 ·rename_i c0 c1 c2 c3 c4 c5 c6 c7 ow n cs c9
  split at h
  ·rename_i hex
   cases h
   obtain ⟨hL,hn,hN,hlen⟩:=hex.choose_spec
   generalize hex.choose = l at hL hn hN hlen
   obtain ⟨x1,r1,rfl,a1,a2⟩:=J3.1 hx
   have:r1 = []:=by have:=a2.1; simpa using this
   subst this
   cases a1 with
   | agg _ vs e1 e2 =>
   obtain ⟨v0,v1,v2,v3,v4,v5,v6,v7,v8,v9,rfl⟩:=ten vs (by rw [e1]; rfl)
   have q8:=e2 8 _ _ rfl rfl
   cases q8 with
   | slice _ _ _ ys b o ao cap g1 g2 g3 g4 g5 g6 g7 g8 g9 =>
   subst hn
   have K:=b91 v0 v1 v2 v3 v4 v5 v6 v7 v9 ao b o cap l w g2 g3 (fun h0=>?_) hN (fun k s hk=>⟨?_⟩) hlen
   ·refine K.mono fun e w' ⟨he,hw⟩=>?_
    subst he
    have G:a1g w w':=⟨hw.size,hw.os,hw.tape,hw.output,fun b hb=>hw.block b hb⟩
    exact ⟨ρ,lab,hS.grew G,G.ext lab,⟨fun _ _ _ h=>h,fun _ _ _ _ h=>h⟩,.str _,hc,Nat.le_refl _⟩
   ·obtain ⟨_,h2⟩:=hL.get (List.getElem?_eq_getElem h0)
    have hy:0 < ys.length:=by rw [g1]; omega
    have:=g5 0 ys[0] (by simp [hy])
    exact a1h this.cell
   ·obtain ⟨h1,h2⟩:=hL.get hk
    have hlen2:((ys.drop (k * 10)).take 10).length = 10:=by
     rw [List.length_take,List.length_drop,g1]; omega
    obtain ⟨y0,y1,y2,y3,y4,y5,y6,y7,y8,y9,hy⟩:=ten _ hlen2
    have get:∀ j,j < 10 -> ∀ y,[y0,y1,y2,y3,y4,y5,y6,y7,y8,y9][j]? = some y -> ys[k * 10 + j]? = some y:=by
     intro j hj y hyj
     rw [<- hy,List.getElem?_take,if_pos hj,List.getElem?_drop] at hyj
     exact hyj
    have cell:∀ j,j < 10 -> ∀ y,[y0,y1,y2,y3,y4,y5,y6,y7,y8,y9][j]? = some y -> w.cell? ⟨b,o + k * 10 + j,none⟩ = some y:=by
     intro j hj y hyj
     have:=(g5 _ _ (get j hj y hyj)).cell
     rw [<- Nat.add_assoc] at this
     exact this
    refine ⟨(cs.drop (k * 10)).take 10,y0,y1,y2,y3,y4,y5,y6,y7,y8,y9,cell 0 (by omega) _ rfl,cell 1 (by omega) _ rfl,cell 2 (by omega) _ rfl,cell 3 (by omega) _ rfl,cell 4 (by omega) _ rfl,cell 5 (by omega) _ rfl,cell 6 (by omega) _ rfl,cell 7 (by omega) _ rfl,cell 8 (by omega) _ rfl,cell 9 (by omega) _ rfl,?_,h1,?_⟩
    ·refine .agg _ [y0,y1,y2,y3,y4,y5,y6,y7,y8,y9] ?_ (fun i v x hv hx=>?_)
     ·rw [List.length_take,List.length_drop]
      show 10 = _
      omega
     ·have hi:i < 10:=by
       rcases Nat.lt_or_ge i 10 with h | h
       ·exact h
       ·rw [List.getElem?_eq_none (by simpa using h)] at hx; cases hx
      rw [List.getElem?_take,if_pos hi,List.getElem?_drop] at hv
      exact nf_rel0 (g6 _ _ _ hv (get i hi x hx)) (g9 v (List.mem_of_getElem? hv))
    ·intro y hyy
     obtain ⟨j,hj,rfl⟩:=List.mem_iff_getElem.1 hyy
     exact g8 _ (List.mem_of_getElem? (get j (by simpa using hj) _ (by simp [hj])))
  ·cases h
 ·cases h
end Go.Proofs.YtlfomdllnidliaaGreatDoor.Aw
namespace Go.Proofs.YtlfomdllnidliaaGreatDoor.Aw
open Go Go.Vm
noncomputable def b4S:Nat -> Option Hand
 | 56=>some (.plain b6B)
 | 9=>some (.plain b1Q)
 | 12=>some (.via gPre b6v)
 | _=>none
noncomputable def env:Env:={ P:=Tryz.prog,T:=T,keep:=keep,byref:=fun _ _=>none,meth:=fun _ _=>none,tags:=fun g=>has g tagL,argTags:=fun g=>has g argL,quiet:=fun g=>has g b1R,loose:=fun _=>false,ok:=fun g=>has g okL,cut:=cut,b1c:=b1c,a6x:=a6x,sep:=sep,mask:=mask,look:=fun g=>has g b8H,frz:=fun g=>has g b3R,slk:=slk,full:=true,intr:=b4S }
theorem codes:b1I env okL = true:=by kernel_rfl
theorem b49:a8l env:=by
 intro _ _ _ h
 cases h
theorem b8k:a7L env:=⟨b49,b08 tys,mixed,a8O (fun _ h=>h) codes,(fun g h hg=>by simp only [env,b4S] at hg; first | (cases hg; done) | (split at hg <;> first | (cases hg; done) | (cases hg; exact b4g) | (cases hg; exact print_ok))),(fun g pre post hg=>by simp only [env,b4S] at hg; first | (cases hg; done) | (split at hg <;> first | (cases hg; done) | (cases hg; exact a7P)))⟩
end Go.Proofs.YtlfomdllnidliaaGreatDoor.Aw
namespace Go.Proofs.YtlfomdllnidliaaGreatDoor.Aw
open Go Go.Vm
def srcA:List UInt8:=[102,117,110,99,32,102,40,120,58,32,73,110,116,41,32,45,62,32,73,110,116,32,123,32,114,101,116,117,114,110,32,120,32,43,32,50,32,42,32,51,59,32,125]
def decA:List V:=[.i 7,.str [102],.i 1,.i 1,.str [],.i 0,.slice .sealed 0 [],.slice .sealed 0 [],.slice .sealed 2 [.i 10,.str [120],.i 0,.i 1,.str [],.i 0,.slice .sealed 0 [],.slice .sealed 0 [],.slice .sealed 0 [],.i 7,.i 20,.str [],.i 0,.i 0,.str [],.i 0,.slice .sealed 0 [],.slice .sealed 0 [],.slice .sealed 1 [.i 28,.str [],.i 0,.i 0,.str [],.i 0,.slice .sealed 0 [],.slice .sealed 0 [],.slice .sealed 1 [.i 64,.str [43],.i 0,.i 0,.str [],.i 0,.slice .sealed 0 [],.slice .sealed 0 [],.slice .sealed 2 [.i 54,.str [120],.i 0,.i 0,.str [],.i 0,.slice .sealed 0 [],.slice .sealed 0 [],.slice .sealed 0 [],.i 31,.i 64,.str [42],.i 0,.i 0,.str [],.i 0,.slice .sealed 0 [],.slice .sealed 0 [],.slice .sealed 2 [.i 50,.str [],.i 2,.i 0,.str [],.i 0,.slice .sealed 0 [],.slice .sealed 0 [],.slice .sealed 0 [],.i 35,.i 50,.str [],.i 3,.i 0,.str [],.i 0,.slice .sealed 0 [],.slice .sealed 0 [],.slice .sealed 0 [],.i 39],.i 35],.i 31],.i 24],.i 22],.i 0]
def cellsA:List V:=[.i 1,.str [],.i 0,.i 0,.str [],.i 0,.slice .sealed 0 [],.slice .sealed 0 [],.slice .sealed 1 [.i 7,.str [102],.i 1,.i 1,.str [],.i 0,.slice .sealed 0 [],.slice .sealed 0 [],.slice .sealed 2 [.i 10,.str [120],.i 0,.i 1,.str [],.i 0,.slice .sealed 0 [],.slice .sealed 0 [],.slice .sealed 0 [],.i 7,.i 20,.str [],.i 0,.i 0,.str [],.i 0,.slice .sealed 0 [],.slice .sealed 0 [],.slice .sealed 1 [.i 28,.str [],.i 0,.i 0,.str [],.i 0,.slice .sealed 0 [],.slice .sealed 0 [],.slice .sealed 1 [.i 64,.str [43],.i 0,.i 0,.str [],.i 0,.slice .sealed 0 [],.slice .sealed 0 [],.slice .sealed 2 [.i 54,.str [120],.i 0,.i 0,.str [],.i 0,.slice .sealed 0 [],.slice .sealed 0 [],.slice .sealed 0 [],.i 31,.i 64,.str [42],.i 0,.i 0,.str [],.i 0,.slice .sealed 0 [],.slice .sealed 0 [],.slice .sealed 2 [.i 50,.str [],.i 2,.i 0,.str [],.i 0,.slice .sealed 0 [],.slice .sealed 0 [],.slice .sealed 0 [],.i 35,.i 50,.str [],.i 3,.i 0,.str [],.i 0,.slice .sealed 0 [],.slice .sealed 0 [],.slice .sealed 0 [],.i 39],.i 35],.i 31],.i 24],.i 22],.i 0],.i 0]
def hpA:Hp:=[(0,.row [.slice (.tag 1) 22 [.str [102,117,110,99],.str [102],.str [40],.str [120],.str [58],.str [73,110,116],.str [41],.str [45,62],.str [73,110,116],.str [123],.str [114,101,116,117,114,110],.str [40],.str [120],.str [43],.str [40],.str [50],.str [42],.str [51],.str [41],.str [41],.str [59],.str [125]]]),(1,.tip 1 22)]
def hpB:Hp:=[(0,.row [.slice (.tag 1) 22 [.str [102,117,110,99],.str [102],.str [40],.str [120],.str [58],.str [73,110,116],.str [41],.str [45,62],.str [73,110,116],.str [123],.str [114,101,116,117,114,110],.str [40],.str [120],.str [43],.str [40],.str [50],.str [42],.str [51],.str [41],.str [41],.str [59],.str [125]]]),(1,.tip 1 22)]
def b3B:List UInt8:=[102,117,110,99,32,102,32,40,32,120,32,58,32,73,110,116,32,41,32,45,62,32,73,110,116,32,123,32,114,101,116,117,114,110,32,40,32,120,32,43,32,40,32,50,32,42,32,51,32,41,32,41,32,59,32,125]
def b5e:Nod:=⟨1,[],0,⟨0,[],0,[]⟩,[],[⟨7,[102],1,⟨1,[],0,[]⟩,[],[⟨10,[120],0,⟨1,[],0,[]⟩,[],[],7⟩,⟨20,[],0,⟨0,[],0,[]⟩,[],[⟨28,[],0,⟨0,[],0,[]⟩,[],[⟨64,[43],0,⟨0,[],0,[]⟩,[],[⟨54,[120],0,⟨0,[],0,[]⟩,[],[],31⟩,⟨64,[42],0,⟨0,[],0,[]⟩,[],[⟨50,[],2,⟨0,[],0,[]⟩,[],[],35⟩,⟨50,[],3,⟨0,[],0,[]⟩,[],[],39⟩],35⟩],31⟩],24⟩],22⟩],0⟩],0⟩
theorem modA_run:run env 400 (.call 6 [.str srcA]) [] = some (.ret (.tuple [.agg cellsA,.slice .sealed 0 []]) []):=by kernel_rfl
theorem c1h:run b0s 400 (.call 18 [.ptr 0 0,.agg decA]) hp1 = some (.ret (.tuple []) hpA):=by kernel_rfl
theorem c1Z:run b0s 400 (.call 20 [.ptr 0 0]) hpA = some (.ret (.str b3B) hpB):=by kernel_rfl
theorem modA_enc:(some (.ret (.tuple [.agg cellsA,.slice .sealed 0 []]) []):Option Out) = some (.ret (.tuple [.agg (a96 b5e),.slice .sealed 0 (a97 [])]) []):=by kernel_rfl
theorem modA_E:E env (.call 6 [.str srcA]) [] = some (.ret (.tuple [.agg (a96 b5e),.slice .sealed 0 (a97 [])]) []):=((a2N env).le 400 _ _ _ modA_run).trans modA_enc
theorem lineA_ok:b28 decA b3B:=⟨hpA,hpB,(a2N b0s).le 400 _ _ _ c1h,(a2N b0s).le 400 _ _ _ c1Z⟩
theorem linesA:Lines (decA ++ []) [b3B]:=.cons decA [] b3B [] (by kernel_rfl) lineA_ok .nil
theorem printA_E:E env (.call 9 [.agg (a96 b5e)]) [] = some (.ret (.str (printed [b3B])) []):=by
 refine b7a ?_
 have hi:env.intr 9 = some (.plain b1Q):=rfl
 show (match env.intr 9 with
  | some (.plain h)=>h [.agg (a96 b5e)] []
  | some (.via pre post)=>match pre [.agg (a96 b5e)] [] with
   | some (g',l,H')=>match E env (.call g' l) H' with
    | some o=>post [.agg (a96 b5e)] [] o
    | none=>none
   | none=>none
  | none=>a4e env (E env) 9 [.agg (a96 b5e)] []) = _
 rw [hi]
 show b1Q _ _ = _
 have hc:(a96 b5e) = [.i 1,.str [],.i 0,.i 0,.str [],.i 0,.slice .sealed 0 [],.slice .sealed 0 [],.slice .sealed 1 (decA ++ []),.i 0]:=by kernel_rfl
 rw [hc]
 exact c1E linesA rfl (by decide) (by decide)
end Go.Proofs.YtlfomdllnidliaaGreatDoor.Aw
namespace Go.Proofs.YtlfomdllnidliaaGreatDoor.Aw
open Go Go.Vm
def modG (a1P:Str):Option (Nod × List Flt):=match decide (a1P = srcA) with
 | true=>some (b5e,[])
 | false=>none
noncomputable def b5v (n1:Nod):Option Str:=match E env (.call 9 [.agg (c0 n1.op n1.s n1.n n1.t.kind n1.t.name n1.t.n (.sl p9 n1.t.args) (.sl p9 n1.ts) (.sl F6 n1.l) n1.at_)]) [] with
 | some (.ret (.str s) [])=>some s
 | _=>none
end Go.Proofs.YtlfomdllnidliaaGreatDoor.Aw
namespace Go.Proofs.YtlfomdllnidliaaGreatDoor.Aw
open Go Go.Vm
noncomputable def a7U:Option (Bool) :=
 (modG [102,117,110,99,32,102,40,120,58,32,73,110,116,41,32,45,62,32,73,110,116,32,123,32,114,101,116,117,114,110,32,120,32,43,32,50,32,42,32,51,59,32,125]).bind fun (nn1,ll2) =>
 cond (eqB (List.length ll2:Int) 0) (
 (b5v nn1).bind fun rr3 =>
 some ((eqS rr3 [102,117,110,99,32,102,32,40,32,120,32,58,32,73,110,116,32,41,32,45,62,32,73,110,116,32,123,32,114,101,116,117,114,110,32,40,32,120,32,43,32,40,32,50,32,42,32,51,32,41,32,41,32,59,32,125,10]))) (
 some (false))
def b3T:Bool -> Out
 | a1F=>.ret (.bool a1F) []
end Go.Proofs.YtlfomdllnidliaaGreatDoor.Aw
namespace Go.Proofs.YtlfomdllnidliaaGreatDoor.Aw
open Go Go.Vm
theorem modG_ok {a1P:Str} {nn:Nod} {ll:List Flt} (h:modG a1P = some (nn,ll)):E env (.call 6 [.str a1P]) [] = some (.ret (.tuple [.agg (c0 nn.op nn.s nn.n nn.t.kind nn.t.name nn.t.n (.sl p9 nn.t.args) (.sl p9 nn.ts) (.sl F6 nn.l) nn.at_),.sl a97 ll]) []):=by
 unfold modG at h
 split at h
 ·rename_i hs
  have hs:=of_decide_eq_true hs
  subst hs
  cases h
  exact modA_E
 ·cases h
theorem c1D {n1:Nod} {rr:Str} (h:b5v n1 = some rr):E env (.call 9 [.agg (c0 n1.op n1.s n1.n n1.t.kind n1.t.name n1.t.n (.sl p9 n1.t.args) (.sl p9 n1.ts) (.sl F6 n1.l) n1.at_)]) [] = some (.ret (.str rr) []):=by
 unfold b5v at h
 split at h
 ·rename_i he
  cases h
  exact he
 ·cases h
end Go.Proofs.YtlfomdllnidliaaGreatDoor.Aw
namespace Go.Proofs.YtlfomdllnidliaaGreatDoor.Aw
open Go Go.Vm
theorem b4Z {r:Bool} (h:a7U = some r) :
  E env (.call 5 []) [] = some (b3T r):=by
 unfold a7U at h
 refine K6 rfl Tryz.func5 rfl rfl ?_
 refine eSG (oB 1 rfl (eSG ?_))
 obtain ⟨⟨nn1,ll2⟩,g1,h⟩:=o9 h
 obtain ⟨nn1_0,nn1_1,nn1_2,⟨nn1_3,nn1_4,nn1_5,nn1_6⟩,nn1_7,nn1_8,nn1_9⟩:=nn1
 refine a0t rfl rfl rfl rfl rfl (modG_ok g1) rfl ?_
 refine oB 6 rfl (eSG (oA 4 rfl ?_))
 refine M9 rfl rfl rfl (fun g2=>?_) (fun g2=>?_)
 ·replace h:=a2I h g2
  refine oA 1 rfl ?_
  obtain ⟨rr3,g3,h⟩:=o9 h
  refine a0t rfl rfl rfl rfl rfl (c1D g3) rfl ?_
  refine oB 3 rfl ?_
  cases h
  exact D7 ⟨_,_,_,rfl,rfl,rfl⟩
 ·replace h:=a2H h g2
  refine oB 5 rfl ?_
  cases h
  exact D7 ⟨_,_,_,rfl,rfl,rfl⟩
end Go.Proofs.YtlfomdllnidliaaGreatDoor.Aw
namespace Go.Proofs.YtlfomdllnidliaaGreatDoor.Aw
open Go Go.Vm
theorem a7e {a b:Int} (h:a = b):eqB a b = true:=by simp [eqB,h]
theorem a2R (s:Str):eqS s s = true:=by simp [eqS]
theorem awake_ok:a7U = some true:=by
 unfold a7U
 have h1:modG [102,117,110,99,32,102,40,120,58,32,73,110,116,41,32,45,62,32,73,110,116,32,123,32,114,101,116,117,114,110,32,120,32,43,32,50,32,42,32,51,59,32,125] = some (b5e,[]):=by
  unfold modG
  rw [show decide (_ = srcA) = true from by decide]
 rw [h1,Option.bind_some]
 simp only [List.length_nil]
 rw [show eqB ((0:Nat):Int) 0 = true from a7e rfl,cond_true]
 have h2:b5v b5e = some (printed [b3B]):=by
  unfold b5v
  have h3:=printA_E
  unfold a96 at h3
  rw [h3]
 rw [h2,Option.bind_some]
 have h4:eqS (printed [b3B]) [102,117,110,99,32,102,32,40,32,120,32,58,32,73,110,116,32,41,32,45,62,32,73,110,116,32,123,32,114,101,116,117,114,110,32,40,32,120,32,43,32,40,32,50,32,42,32,51,32,41,32,41,32,59,32,125,10] = true:=by
  have:printed [b3B] = [102,117,110,99,32,102,32,40,32,120,32,58,32,73,110,116,32,41,32,45,62,32,73,110,116,32,123,32,114,101,116,117,114,110,32,40,32,120,32,43,32,40,32,50,32,42,32,51,32,41,32,41,32,59,32,125,10]:=by decide
  rw [this,a2R]
 rw [h4]
theorem awake_E:E env (.call 5 []) [] = some (.ret (.bool true) []):=b4Z awake_ok
def b9q:List V -> Option V:=fun args=>match args with
 | []=>some (.bool true)
 | _=>none
theorem b9s:b1A Tryz.prog 5 (valI b9q):=by
 refine c08 b8k (fun args v h=>?_) ⟨_,_,Tryz.func5,by kernel_rfl,rfl⟩
 unfold b9q at h
 split at h
 ·cases h
  exact ⟨rfl,rfl,awake_E⟩
 ·cases h
end Go.Proofs.YtlfomdllnidliaaGreatDoor.Aw
namespace Go.Proofs.YtlfomdllnidliaaGreatDoor
open Go Go.Vm
noncomputable def b4S:Nat -> Option Hand
 | 56=>some (.plain b6B)
 | 7=>some (.plain (valI Sc.tokF))
 | 5=>some (.plain (valI Aw.b9q))
 | 126=>some (.plain b8b)
 | 12=>some (.via gPre b6v)
 | _=>none
noncomputable def env:Env:={ P:=Tryz.prog,T:=T,keep:=keep,byref:=fun _ _=>none,meth:=fun _ _=>none,tags:=fun g=>has g tagL,argTags:=fun g=>has g argL,quiet:=fun g=>has g b1R,loose:=fun _=>false,ok:=fun g=>has g okL,cut:=cut,b1c:=b1c,a6x:=a6x,sep:=sep,mask:=mask,look:=fun g=>has g b8H,frz:=fun g=>has g b3R,slk:=slk,full:=true,intr:=b4S }
theorem codes:b1I env okL = true:=by kernel_rfl
theorem b49:a8l env:=by
 intro _ _ _ h
 cases h
theorem b8k:a7L env:=⟨b49,b08 tys,mixed,a8O (fun _ h=>h) codes,(fun g h hg=>by simp only [env,b4S] at hg; first | (cases hg; done) | (split at hg <;> first | (cases hg; done) | (cases hg; exact b4g) | (cases hg; exact Sc.tok_intr) | (cases hg; exact Aw.b9s) | (cases hg; exact b6c))),(fun g pre post hg=>by simp only [env,b4S] at hg; first | (cases hg; done) | (split at hg <;> first | (cases hg; done) | (cases hg; exact a7P)))⟩
end Go.Proofs.YtlfomdllnidliaaGreatDoor
namespace Go.Proofs.YtlfomdllnidliaaGreatDoor
open Go Go.Vm
theorem b6d {bb:Bool} (h:b9r = some bb):E env (.call 5 []) [] = some (.ret (.bool bb) []):=by
 cases h
 exact b69 rfl rfl
theorem b5F {a1P:Str} {l2:List Tok} {c3:Int} {a4:Int} (h:b06 a1P = some (l2,c3,a4)):E env (.call 7 [.str a1P]) [] = some (.ret (.tuple [.sl C8 l2,.agg [.i c3,.i a4]]) []):=by
 unfold b06 at h
 cases h
 exact tok_call rfl (Sc.b4t _).1
theorem atoi_ok {s1:Str} {n2:Int} (h:atoi s1 = some n2):E env (.call 126 [.str s1]) [] = some (.ret (.tuple [.i n2,.nilIface]) []):=by
 unfold atoi at h
 split at h
 ·rename_i hb
  cases h
  exact b69 rfl (by simp only [b8b,hb])
 ·cases h
end Go.Proofs.YtlfomdllnidliaaGreatDoor
namespace Go.Proofs.YtlfomdllnidliaaGreatDoor
open Go Go.Vm
theorem b52 {a1P:Str} {r:Unit} (h:a9D a1P = some r) :
  E env (.call 4 [.str a1P]) [] = some (b40 a1P r):=by
 unfold a9D at h
 refine K6 rfl Tryz.func4 rfl rfl ?_
 refine eSG (oB 1 rfl (eSG (oB 4 rfl ?_)))
 cases h
 exact D7 ⟨_,_,_,rfl,rfl,rfl⟩
theorem b5n {a1P:Str} {r:Flt × List Tok} (h:a8d a1P = some r) :
  E env (.call 10 [.str a1P]) [] = some (b3Z a1P r):=by
 unfold a8d at h
 refine K6 rfl Tryz.func10 rfl rfl ?_
 refine eSG (oB 2 rfl (eSG (oA 1 rfl ?_)))
 obtain ⟨⟨l2,c3,a4⟩,g1,h⟩:=o9 h
 refine a0t rfl rfl rfl rfl rfl (b5F g1) rfl ?_
 refine oB 6 rfl (H8 ?_)
 refine Q0 [384] rfl ?_
 refine oC rfl rfl (oC rfl rfl (oC rfl rfl (K3 rfl ?_)))
 refine oD ?_
 refine D5 (oC rfl rfl (oC rfl rfl (oC rfl rfl (oC rfl rfl ?_))))
 refine a0X ?_
 refine ⟨rfl,?_⟩
 cases h
 exact D7 ⟨_,_,_,rfl,rfl,rfl⟩
theorem a4p {d9:List Tok} {at2:Int} {j6:Int} {r:Int} (h:a0G d9 at2 j6 = some r) :
  E env (.call 11 [.ptr 0 0]) (hP C8 d9 at2 j6) = some (b0f d9 at2 j6 r):=by
 unfold a0G at h
 refine K6 rfl Tryz.func11 rfl rfl ?_
 refine eSG (oB 1 rfl (H8 (eSG (oB 10 rfl ?_))))
 refine eI rfl h (fun h=>?_) fun h=>?_
 ·refine eSG (oA 8 rfl ?_)
  obtain ⟨x4,g2,h⟩:=o9 h
  refine a3E a8n g2 rfl rfl rfl rfl rfl rfl rfl rfl ?_
  refine oB 3 rfl ?_
  cases h
  exact D7 ⟨_,_,_,rfl,rfl,rfl⟩
 ·refine E8 (eSG (oB 5 rfl ?_))
  cases h
  exact D7 ⟨_,_,_,rfl,rfl,rfl⟩
theorem G6 {n1:Int} {b6D:Int} {b5P:Str} {a8j:List Tok} {at5:Int} {b60:Int} {r:Bool} (h:u7 n1 b6D b5P a8j at5 b60 = some r) :
  E env (.call 24 [.ptr 0 0,.i n1,.i b6D,.str b5P]) (hP C8 a8j at5 b60) = some (b1a n1 b6D b5P a8j at5 b60 r):=by
 unfold u7 at h
 refine K6 rfl Tryz.func24 rfl rfl ?_
 refine eSG (oB 1 rfl (H8 (eSG (oB 12 rfl ?_))))
 refine eI rfl h (fun h=>?_) fun h=>?_
 ·refine eSG (oB 1 rfl ?_)
  cases h
  exact D7 ⟨_,_,_,rfl,rfl,rfl⟩
 ·refine E8 (H8 ?_)
  refine Q0 [0,0] rfl ?_
  refine oC rfl rfl (oC rfl rfl (oC rfl rfl (oC rfl rfl (oC rfl rfl (oC rfl rfl (oC rfl rfl (oC rfl rfl (oC rfl rfl (oC rfl rfl (K3 rfl ?_))))))))))
  obtain ⟨x7,g2,h⟩:=o9 h
  refine a3E a8n g2 rfl rfl rfl rfl rfl rfl rfl rfl ?_
  refine D5 (K3 rfl ?_)
  refine a7l (c:=[.i x7.kind,.str x7.text,.i x7.at_,.i x7.len]) rfl rfl rfl rfl rfl rfl rfl ?_
  refine D5 (oC rfl rfl (oC rfl rfl ?_))
  refine a0X ?_
  refine ⟨rfl,?_⟩
  refine eSG (oA 5 rfl ?_)
  refine M9 rfl rfl rfl (fun g3=>?_) (fun g3=>?_)
  ·replace h:=a2I h g3
   refine oA 3 rfl ?_
   refine M9 rfl rfl rfl (fun g4=>?_) (fun g4=>?_)
   ·replace h:=a2I h g4
    refine oB 7 rfl ?_
    cases h
    exact D7 ⟨_,_,_,rfl,rfl,rfl⟩
   ·replace h:=a2H h g4
    refine oB 7 rfl ?_
    cases h
    exact D7 ⟨_,_,_,rfl,rfl,rfl⟩
  ·replace h:=a2H h g3
   refine oB 10 rfl ?_
   cases h
   exact D7 ⟨_,_,_,rfl,rfl,rfl⟩
theorem E5 {op1:Int} {D8:List Tok} {at3:Int} {J7:Int} {r:Int} (h:E9 op1 D8 at3 J7 = some r) :
  E env (.call 28 [.ptr 0 0,.i op1]) (hP C8 D8 at3 J7) = some (b0h op1 D8 at3 J7 r):=by
 unfold E9 at h
 refine K6 rfl Tryz.func28 rfl rfl ?_
 refine eSG (oB 1 rfl (eSG (oA 2 rfl ?_)))
 obtain ⟨r5,g1,h⟩:=o9 h
 refine b0Y rfl rfl rfl (a9v rfl rfl rfl (a4p g1) rfl rfl rfl) ?_
 refine oD ?_
 refine oB 1 rfl ?_
 cases h
 exact D7 ⟨_,_,_,rfl,rfl,rfl⟩
theorem a4o {d9:List Tok} {at2:Int} {j6:Int} {r:Rs Empty Int} (h:Z4 d9 at2 j6 = some r) :
  E env (.call 66 [.ptr 0 0]) (hP C8 d9 at2 j6) = some (b0e d9 at2 j6 r):=by
 unfold Z4 at h
 refine K6 rfl Tryz.func66 rfl rfl ?_
 refine u6 (oA 1 rfl ?_)
 obtain ⟨r4,g1,h⟩:=o9 h
 refine b0Y rfl rfl rfl (a9v rfl rfl rfl (a4p g1) rfl rfl rfl) ?_
 refine oD ?_
 refine oD ?_
 refine oA 1 rfl ?_
 refine b8O rfl rfl rfl ?_
 cases h
 exact ⟨_,_,rfl,rfl⟩
theorem L8 {a7R:Int} {D8:List Tok} {at3:Int} {J7:Int} {r:Rs Tok Int} (h:M0 a7R D8 at3 J7 = some r) :
  E env (.call 63 [.ptr 0 0,.i a7R]) (hP C8 D8 at3 J7) = some (a9O a7R D8 at3 J7 r):=by
 unfold M0 at h
 refine K6 rfl Tryz.func63 rfl rfl ?_
 refine eSG (oB 1 rfl (H8 (eSG (oA 2 rfl ?_))))
 obtain ⟨r5,g1,h⟩:=o9 h
 refine oV (G6 g1) ?_
 refine oB 1 rfl ?_
 refine eI rfl h (fun h=>?_) fun h=>?_
 ·refine u6 (oA 1 rfl ?_)
  rcases o8 h with ⟨x,_,_⟩ | ⟨at6,g3,h⟩
  ·exact x.elim
  ·refine oW (a4o g3) ?_
   cases h
   exact ⟨_,_,rfl,rfl⟩
 ·refine E8 (H8 ?_)
  refine Q0 [0,0] rfl ?_
  refine oC rfl rfl (oC rfl rfl (oC rfl rfl (oC rfl rfl (oC rfl rfl (oC rfl rfl (oC rfl rfl (oC rfl rfl (K3 rfl ?_))))))))
  obtain ⟨x7,g4,h⟩:=o9 h
  refine a3E a8n g4 rfl rfl rfl rfl rfl rfl rfl rfl ?_
  refine D5 (K3 rfl ?_)
  refine a7l (c:=[.i x7.kind,.str x7.text,.i x7.at_,.i x7.len]) rfl rfl rfl rfl rfl rfl rfl ?_
  refine D5 (oC rfl rfl (oC rfl rfl ?_))
  refine a0X ?_
  refine ⟨rfl,?_⟩
  refine eSG (oB 8 rfl (eSG (oB 2 rfl ?_)))
  cases h
  exact D7 ⟨_,_,_,rfl,rfl,rfl⟩
theorem F7 {d9:List Tok} {at2:Int} {j6:Int} {r:Rs Str Int} (h:H7 d9 at2 j6 = some r) :
  E env (.call 30 [.ptr 0 0]) (hP C8 d9 at2 j6) = some (a8v d9 at2 j6 r):=by
 unfold H7 at h
 refine K6 rfl Tryz.func30 rfl rfl ?_
 refine eSG (oB 1 rfl (eSG (oA 1 rfl ?_)))
 rcases o8 h with ⟨r4,g1,h⟩ | ⟨at5,g2,h⟩
 ·refine oV (L8 g1) ?_
  refine oB 2 rfl ?_
  cases h
  exact D7 ⟨_,_,_,rfl,rfl,rfl⟩
 ·refine oW (L8 g2) ?_
  cases h
  exact ⟨_,_,rfl,rfl⟩
theorem J9 {a9r:Str} {D8:List Tok} {at3:Int} {J7:Int} {r:Bool × Int} (h:F3 a9r D8 at3 J7 = some r) :
  E env (.call 29 [.ptr 0 0,.str a9r]) (hP C8 D8 at3 J7) = some (b0D a9r D8 at3 J7 r):=by
 unfold F3 at h
 refine K6 rfl Tryz.func29 rfl rfl ?_
 refine eSG (oB 1 rfl (H8 (eSG (oA 2 rfl ?_))))
 obtain ⟨r5,g1,h⟩:=o9 h
 refine oV (G6 g1) ?_
 refine oB 1 rfl ?_
 refine eI rfl h (fun h=>?_) fun h=>?_
 ·refine eSG (oB 1 rfl ?_)
  cases h
  exact D7 ⟨_,_,_,rfl,rfl,rfl⟩
 ·refine E8 (eSG (oB 8 rfl (eSG (oB 1 rfl ?_))))
  cases h
  exact D7 ⟨_,_,_,rfl,rfl,rfl⟩
theorem I6 {a9r:Str} {D8:List Tok} {at3:Int} {J7:Int} {r:Rs Int (Int × Int)} (h:J2 a9r D8 at3 J7 = some r) :
  E env (.call 34 [.ptr 0 0,.str a9r]) (hP C8 D8 at3 J7) = some (a8z a9r D8 at3 J7 r):=by
 unfold J2 at h
 refine K6 rfl Tryz.func34 rfl rfl ?_
 refine eSG (oA 2 rfl ?_)
 obtain ⟨⟨r5,at6⟩,g1,h⟩:=o9 h
 refine oV (J9 g1) ?_
 refine oB 1 rfl ?_
 refine eI rfl h (fun h=>?_) fun h=>?_
 ·refine u6 (oA 1 rfl ?_)
  rcases o8 h with ⟨x,_,_⟩ | ⟨at7,g3,h⟩
  ·exact x.elim
  ·refine oW (a4o g3) ?_
   cases h
   exact ⟨_,_,rfl,rfl⟩
 ·refine E8 ?_
  cases h
  exact ⟨_,_,_,rfl,rfl,rfl⟩
theorem D9 {a9n:Str} {D8:List Tok} {at3:Int} {J7:Int} {r:Bool × Int} (h:A7 a9n D8 at3 J7 = some r) :
  E env (.call 64 [.ptr 0 0,.str a9n]) (hP C8 D8 at3 J7) = some (b0j a9n D8 at3 J7 r):=by
 unfold A7 at h
 refine K6 rfl Tryz.func64 rfl rfl ?_
 refine eSG (oB 1 rfl (H8 (eSG (oA 2 rfl ?_))))
 obtain ⟨r5,g1,h⟩:=o9 h
 refine oV (G6 g1) ?_
 refine oB 1 rfl ?_
 refine eI rfl h (fun h=>?_) fun h=>?_
 ·refine eSG (oB 1 rfl ?_)
  cases h
  exact D7 ⟨_,_,_,rfl,rfl,rfl⟩
 ·refine E8 (eSG (oB 8 rfl (eSG (oB 1 rfl ?_))))
  cases h
  exact D7 ⟨_,_,_,rfl,rfl,rfl⟩
theorem o7 {a9n:Str} {D8:List Tok} {at3:Int} {J7:Int} {r:Rs Int (Int × Int)} (h:q9 a9n D8 at3 J7 = some r) :
  E env (.call 57 [.ptr 0 0,.str a9n]) (hP C8 D8 at3 J7) = some (b0l a9n D8 at3 J7 r):=by
 unfold q9 at h
 refine K6 rfl Tryz.func57 rfl rfl ?_
 refine eSG (oA 2 rfl ?_)
 obtain ⟨⟨r5,at6⟩,g1,h⟩:=o9 h
 refine oV (D9 g1) ?_
 refine oB 1 rfl ?_
 refine eI rfl h (fun h=>?_) fun h=>?_
 ·refine u6 (oA 1 rfl ?_)
  rcases o8 h with ⟨x,_,_⟩ | ⟨at7,g3,h⟩
  ·exact x.elim
  ·refine oW (a4o g3) ?_
   cases h
   exact ⟨_,_,rfl,rfl⟩
 ·refine E8 ?_
  cases h
  exact ⟨_,_,_,rfl,rfl,rfl⟩
theorem a2e {n:Nat} {d9:List Tok} {at2:Int} {j6:Int} {r:Rs (List Nod × Int) (Int × Int)} (h:a0y n d9 at2 j6 = some r) :
  E env (.call 58 [.ptr 0 0]) (hP C8 d9 at2 j6) = some (a9a d9 at2 j6 r):=by
 unfold a0y at h
 refine K6 rfl Tryz.func58 rfl rfl ?_
 refine eSG (oB 1 rfl (eSG (oB 1 rfl (H8 (eSG (oA 1 rfl ?_))))))
 obtain ⟨⟨r4,at5⟩,g1,h⟩:=o9 h
 refine oV (D9 g1) ?_
 refine oB 1 rfl ?_
 refine eI rfl h (fun h=>?_) fun h=>?_
 ·refine eSG (oB 1 rfl ?_)
  cases h
  exact D7 ⟨_,_,_,rfl,rfl,rfl⟩
 ·refine E8 ?_
  refine F9 ?_
  refine Y1 rfl ?_
  obtain ⟨yq,hq⟩:∃ y,y = r:=⟨_,rfl⟩
  rw [<- hq] at h ⊢
  clear hq
  revert yq
  refine a0x (fun m (x:List Nod × Int)=>Y2 n j6 d9 m x.1 x.2) (fun x=>[(0,.ptr 0 0),(3,.st 1 F6 x.1)]) (fun x=>[(0,.row [.sl C8 d9,.i x.2,.i j6]),(1,.tip (tpe 10 (List.length x.1)) (List.length x.1))]) _ (fun _=>rfl) (fun m4 x y ih h=>?_) n (([]:List Nod),at5)
  obtain ⟨l501,a1y⟩:=x
  rw [Y2] at h
  refine F9 ?_
  refine eSG (oA 1 rfl ?_)
  obtain ⟨at6,g3,h⟩:=o9 h
  refine oV (E5 g3) ?_
  refine oB 2 rfl (eSG (oA 1 rfl ?_))
  rcases o8 h with ⟨r7,g4,h⟩ | ⟨at11,g8,h⟩
  ·refine oV (F7 g4) ?_
   refine oB 2 rfl (eSG (oA 3 rfl ?_))
   obtain ⟨l8,g5,h⟩:=o9 h
   refine oP U0 g5 ?_
   refine oB 1 rfl (eSG (oA 1 rfl ?_))
   obtain ⟨⟨r9,at10⟩,g6,h⟩:=o9 h
   refine oV (D9 g6) ?_
   refine oB 1 rfl ?_
   refine eI rfl h (fun h=>?_) fun h=>?_
   ·refine eSG (oB 2 rfl ?_)
    cases h
    exact D7 ⟨_,_,_,rfl,rfl,rfl⟩
   ·refine E8 ?_
    exact ⟨_,_,rfl,ih (_,_) _ h⟩
  ·refine oW (F7 g8) ?_
   cases h
   exact ⟨_,_,rfl,rfl⟩
theorem Y5 {n:Nat} {d9:List Tok} {at2:Int} {j6:Int} {r:Rs (List Nod × Int) (Int × Int)} (h:N9 n d9 at2 j6 = some r) :
  E env (.call 31 [.ptr 0 0]) (hP C8 d9 at2 j6) = some (a4H d9 at2 j6 r):=by
 unfold N9 at h
 refine K6 rfl Tryz.func31 rfl rfl ?_
 refine eSG (oB 1 rfl (eSG (oB 1 rfl (H8 (eSG (oA 1 rfl ?_))))))
 obtain ⟨⟨r4,at5⟩,g1,h⟩:=o9 h
 refine oV (D9 g1) ?_
 refine oB 1 rfl ?_
 refine eI rfl h (fun h=>?_) fun h=>?_
 ·refine eSG (oB 1 rfl ?_)
  cases h
  exact D7 ⟨_,_,_,rfl,rfl,rfl⟩
 ·refine E8 ?_
  obtain ⟨y3,g4,h⟩:=R6 h
  refine U2 (KR:=fun r=>a2E env 31 1 Tryz.f31.results.toList (a4H d9 at2 j6 r)) y3 (fun z15=>[(0,.ptr 0 0),(3,.st 1 F6 z15.1)]) (fun z15=>[(0,.row [.sl C8 d9,.i z15.2,.i j6]),(1,.tip (tpe 10 (List.length z15.1)) (List.length z15.1))]) rfl ?_ (fun z15 hx=>?_) (fun r res hz hr hn=>?_)
  ·replace h:=g4
   clear g4
   refine F9 ?_
   refine Y1 rfl ?_
   revert y3
   refine a0x (fun m (x:List Nod × Int)=>Q7 n j6 d9 m x.1 x.2) (fun x=>[(0,.ptr 0 0),(3,.st 1 F6 x.1)]) (fun x=>[(0,.row [.sl C8 d9,.i x.2,.i j6]),(1,.tip (tpe 10 (List.length x.1)) (List.length x.1))]) _ (fun _=>rfl) (fun m4 x y ih h=>?_) n (([]:List Nod),at5)
   obtain ⟨b25,a3n⟩:=x
   rw [Q7] at h
   refine F9 ?_
   refine eSG (oA 1 rfl ?_)
   obtain ⟨at6,g5,h⟩:=o9 h
   refine oV (E5 g5) ?_
   refine oB 2 rfl (eSG (oA 1 rfl ?_))
   rcases o8 h with ⟨r7,g6,h⟩ | ⟨at15,g12,h⟩
   ·refine oV (F7 g6) ?_
    refine oB 2 rfl (eSG (oA 1 rfl ?_))
    rcases o8 h with ⟨⟨r8,at9⟩,g7,h⟩ | ⟨⟨at13,at14⟩,g11,h⟩
    ·refine oV (a2e g7) ?_
     refine oB 2 rfl (eSG (oA 3 rfl ?_))
     obtain ⟨l10,g8,h⟩:=o9 h
     refine oP U0 g8 ?_
     refine oB 1 rfl (eSG (oA 1 rfl ?_))
     obtain ⟨⟨r11,at12⟩,g9,h⟩:=o9 h
     refine oV (D9 g9) ?_
     refine oB 1 rfl ?_
     refine eI rfl h (fun h=>?_) fun h=>?_
     ·refine V7 ?_
      cases h
      exact ⟨_,rfl,rfl⟩
     ·refine E8 ?_
      exact ⟨_,_,rfl,ih (_,_) _ h⟩
    ·refine oW (a2e g11) ?_
     cases h
     exact ⟨_,rfl,_,_,rfl,rfl⟩
   ·refine oW (F7 g12) ?_
    cases h
    exact ⟨_,rfl,_,_,rfl,rfl⟩
  ·subst hx
   obtain ⟨a9C,a4h⟩:=z15
   refine eSG (oA 1 rfl ?_)
   rcases o8 h with ⟨at16,g13,h⟩ | ⟨⟨at17,at18⟩,g14,h⟩
   ·refine oV (o7 g13) ?_
    refine D5 (eSG (oB 2 rfl ?_))
    cases h
    exact D7 ⟨_,_,_,rfl,rfl,rfl⟩
   ·refine oW (o7 g14) ?_
    cases h
    exact ⟨_,_,rfl,rfl⟩
  ·subst hz
   rcases res with ⟨_ | _ | _ | _,_,_⟩ <;> first | exact absurd rfl hn | exact hr.elim | (cases h; exact hr)
theorem b5o {a6D:Str} {a0u:List Typ} {r:Typ} (h:a4n a6D a0u = some r) :
  E env (.call 94 [.str a6D,.sl p9 a0u]) [] = some (b0a a6D a0u r):=by
 unfold a4n at h
 refine K6 rfl Tryz.func94 rfl rfl ?_
 refine eSG (oB 1 rfl (eSG (oB 1 rfl ?_)))
 obtain ⟨y1,g2,h⟩:=R6 h
 refine U2 (KR:=fun r=>a2E env 94 0 Tryz.f94.results.toList (b0a a6D a0u r)) y1 (fun z17=>[(0,.str a6D),(1,.sl p9 a0u),(4,.ptr 0 0),(5,.i z17)]) (fun z17=>[(0,.row [.i 0,.str [],.i 0,.st 1 p9 ([]:List Typ)]),(1,.tip 0 0)]) rfl ?_ (fun z17 hx=>?_) (fun r res hz hr hn=>?_)
 ·replace h:=g2
  clear g2
  refine F9 ?_
  obtain ⟨y3,g4,h⟩:=o9 h
  refine a15 [(0,.str a6D),(1,.sl p9 a0u),(4,.ptr 0 0),(5,.i 6),(6,.bool y3)] [(0,.row [.i 0,.str [],.i 0,.st 1 p9 ([]:List Typ)]),(1,.tip 0 0)] rfl ?_ ?_
  ·replace h:=g4
   clear g4
   refine u6 (oA 4 rfl ?_)
   refine M9 rfl rfl rfl (fun g5=>?_) (fun g5=>?_)
   ·replace h:=a2I h g5
    refine oB 4 rfl ?_
    cases h
    exact rfl
   ·replace h:=a2H h g5
    refine oB 4 rfl ?_
    cases h
    exact rfl
  ·obtain ⟨x505,rfl⟩:∃ q,q = y3:=⟨_,rfl⟩
   refine eI rfl h (fun h=>?_) fun h=>?_
   ·refine eSG (oA 1 rfl ?_)
    refine oD ?_
    refine oB 1 rfl ?_
    cases h
    exact D7 ⟨_,rfl,_,_,_,rfl,rfl,rfl⟩
   ·obtain ⟨y7,g8,h⟩:=o9 h
    refine a15 [(0,.str a6D),(1,.sl p9 a0u),(4,.ptr 0 0),(5,.i 6),(16,.bool y7)] [(0,.row [.i 0,.str [],.i 0,.st 1 p9 ([]:List Typ)]),(1,.tip 0 0)] rfl ?_ ?_
    ·replace h:=g8
     clear g8
     refine u6 (oA 4 rfl ?_)
     refine M9 rfl rfl rfl (fun g9=>?_) (fun g9=>?_)
     ·replace h:=a2I h g9
      refine oB 4 rfl ?_
      cases h
      exact rfl
     ·replace h:=a2H h g9
      refine oB 4 rfl ?_
      cases h
      exact rfl
    ·obtain ⟨x503,rfl⟩:∃ q,q = y7:=⟨_,rfl⟩
     refine eI rfl h (fun h=>?_) fun h=>?_
     ·refine eSG (oA 1 rfl ?_)
      refine oD ?_
      refine oB 1 rfl ?_
      cases h
      exact D7 ⟨_,rfl,_,_,_,rfl,rfl,rfl⟩
     ·refine eSG (oB 4 rfl ?_)
      refine eI rfl h (fun h=>?_) fun h=>?_
      ·refine E8 ?_
       cases h
       exact ⟨_,rfl,rfl⟩
      ·refine eSG (oB 3 rfl ?_)
       refine eI rfl h (fun h=>?_) fun h=>?_
       ·refine u6 (oB 1 rfl ?_)
        cases h
        exact ⟨_,rfl,rfl⟩
       ·refine eSG (oB 3 rfl ?_)
        refine eI rfl h (fun h=>?_) fun h=>?_
        ·refine u6 (oB 1 rfl ?_)
         cases h
         exact ⟨_,rfl,rfl⟩
        ·refine eSG (oB 3 rfl ?_)
         refine eI rfl h (fun h=>?_) fun h=>?_
         ·refine u6 (oB 1 rfl ?_)
          cases h
          exact ⟨_,rfl,rfl⟩
         ·refine eSG (oB 3 rfl ?_)
          refine eI rfl h (fun h=>?_) fun h=>?_
          ·refine u6 (oB 1 rfl ?_)
           cases h
           exact ⟨_,rfl,rfl⟩
          ·refine E8 ?_
           cases h
           exact ⟨_,rfl,rfl⟩
 ·subst hx
  obtain ⟨b4h,rfl⟩:∃ q,q = z17:=⟨_,rfl⟩
  refine H8 (eSG (oB 2 rfl ?_))
  refine eI rfl h (fun h=>?_) fun h=>?_
  ·refine eSG (oA 1 rfl ?_)
   refine oD ?_
   refine oB 1 rfl ?_
   cases h
   exact D7 ⟨_,_,_,rfl,rfl,rfl⟩
  ·refine E8 (eSG (oA 3 rfl ?_))
   refine oD ?_
   refine oB 1 rfl ?_
   cases h
   exact D7 ⟨_,_,_,rfl,rfl,rfl⟩
 ·subst hz
  rcases res with ⟨_ | _ | _ | _,_,_⟩ <;> first | exact absurd rfl hn | exact hr.elim | (cases h; exact hr)
end Go.Proofs.YtlfomdllnidliaaGreatDoor
namespace Go.Proofs.YtlfomdllnidliaaGreatDoor
open Go Go.Vm
structure A9.Ok (Φ:A9):Prop where
 D6:∀ {d9:List Tok} {at2:Int} {j6:Int} {r:Rs (Typ × Int) (Int × Int)},Φ.D6 d9 at2 j6 = some r -> E env (.call 60 [.ptr 0 0]) (hP C8 d9 at2 j6) = some (a1Z d9 at2 j6 r)
 P6:∀ {inExpr1:Bool} {D8:List Tok} {at3:Int} {J7:Int} {r:Rs (Typ × Int) (Int × Int)},Φ.P6 inExpr1 D8 at3 J7 = some r -> E env (.call 89 [.ptr 0 0,.bool inExpr1]) (hP C8 D8 at3 J7) = some (a1i inExpr1 D8 at3 J7 r)
theorem b0k (n:Nat) {Φ:A9} (hΦ:Φ.Ok) {d9:List Tok} {at2:Int} {j6:Int} {r:Rs (Typ × Int) (Int × Int)} (h:a09 n Φ d9 at2 j6 = some r) :
  E env (.call 60 [.ptr 0 0]) (hP C8 d9 at2 j6) = some (a1Z d9 at2 j6 r):=by
 unfold a09 at h
 refine K6 rfl Tryz.func60 rfl rfl ?_
 refine eSG (oB 1 rfl (H8 (eSG (oA 1 rfl ?_))))
 obtain ⟨⟨r4,at5⟩,g1,h⟩:=o9 h
 refine oV (J9 g1) ?_
 refine D5 ?_
 refine eI rfl h (fun h=>?_) fun h=>?_
 ·refine eSG (oA 1 rfl ?_)
  rcases o8 h with ⟨r6,g3,h⟩ | ⟨at7,g4,h⟩
  ·refine oV (F7 g3) ?_
   refine oD ?_
   refine oB 1 rfl ?_
   cases h
   exact D7 ⟨_,_,_,rfl,rfl,rfl⟩
  ·refine oW (F7 g4) ?_
   cases h
   exact ⟨_,_,rfl,rfl⟩
 ·refine E8 (H8 (eSG (oA 1 rfl ?_)))
  obtain ⟨⟨r8,at9⟩,g5,h⟩:=o9 h
  refine oV (D9 g5) ?_
  refine oB 1 rfl ?_
  refine eI rfl h (fun h=>?_) fun h=>?_
  ·refine eSG (oA 1 rfl ?_)
   rcases o8 h with ⟨⟨r10,at11⟩,g7,h⟩ | ⟨⟨at12,at13⟩,g8,h⟩
   ·obtain ⟨r10_0,r10_1,r10_2,r10_3⟩:=r10
    refine oV (hΦ.P6 g7) ?_
    refine oB 1 rfl ?_
    cases h
    exact D7 ⟨_,_,_,rfl,rfl,rfl⟩
   ·refine oW (hΦ.P6 g8) ?_
    cases h
    exact ⟨_,_,rfl,rfl⟩
  ·refine E8 (eSG (oB 1 rfl ?_))
   obtain ⟨y9,g10,h⟩:=R6 h
   refine U2 (KR:=fun r=>a2E env 60 1 Tryz.f60.results.toList (a1Z d9 at2 j6 r)) y9 (fun z31=>[(0,.ptr 0 0),(2,.ptr 1 0),(3,.st 2 p9 z31.1)]) (fun z31=>[(0,.row [.sl C8 d9,.i z31.2,.i j6]),(1,.row [.i 0,.str [],.i 0,.st 3 p9 ([]:List Typ)]),(2,.tip (tpe 4 (List.length z31.1)) (List.length z31.1)),(3,.tip 0 0)]) rfl ?_ (fun z31 hx=>?_) (fun r res hz hr hn=>?_)
   ·replace h:=g10
    clear g10
    refine eSG (oA 1 rfl ?_)
    obtain ⟨⟨r14,at15⟩,g11,h⟩:=o9 h
    refine oV (D9 g11) ?_
    refine oB 1 rfl ?_
    refine eI rfl h (fun h=>?_) fun h=>?_
    ·refine eSG (oA 2 rfl ?_)
     rcases o8 h with ⟨⟨r16,at17⟩,g13,h⟩ | ⟨⟨at29,at30⟩,g25,h⟩
     ·obtain ⟨r16_0,r16_1,r16_2,r16_3⟩:=r16
      refine oV (hΦ.D6 g13) ?_
      refine oA 1 rfl ?_
      obtain ⟨l18,g14,h⟩:=o9 h
      refine a6L b0r g14 rfl rfl rfl rfl (.inl rfl) rfl rfl rfl rfl rfl rfl rfl rfl rfl rfl (a7f (a1Y rfl) rfl) rfl rfl rfl ?_
      refine oB 1 rfl ?_
      obtain ⟨y15,g16,h⟩:=a3o h
      refine U2 (KR:=fun r=>a2E env 60 1 Tryz.f60.results.toList (a1Z d9 at2 j6 r)) y15 (fun z24=>[(0,.ptr 0 0),(2,.ptr 1 0),(3,.st 2 p9 z24.1)]) (fun z24=>[(0,.row [.sl C8 d9,.i z24.2,.i j6]),(1,.row [.i 0,.str [],.i 0,.st 3 p9 ([]:List Typ)]),(2,.tip (tpe 4 (List.length z24.1)) (List.length z24.1)),(3,.tip 0 0)]) rfl ?_ (fun z24 hx=>?_) (fun r res hz hr hn=>?_)
      ·replace h:=g16
       clear g16
       refine F9 ?_
       refine Y1 rfl ?_
       revert y15
       refine a0x (fun m (x:List Typ × Int)=>P7 n Φ j6 d9 m x.1 x.2) (fun x=>[(0,.ptr 0 0),(2,.ptr 1 0),(3,.st 2 p9 x.1)]) (fun x=>[(0,.row [.sl C8 d9,.i x.2,.i j6]),(1,.row [.i 0,.str [],.i 0,.st 3 p9 ([]:List Typ)]),(2,.tip (tpe 4 (List.length x.1)) (List.length x.1)),(3,.tip 0 0)]) _ (fun _=>rfl) (fun m8 x y ih h=>?_) n (l18,at17)
       obtain ⟨b7e,a4h⟩:=x
       rw [P7] at h
       refine H8 (eSG (oA 1 rfl ?_))
       obtain ⟨⟨r19,at20⟩,g17,h⟩:=o9 h
       refine oV (D9 g17) ?_
       refine D5 ?_
       refine eI rfl h (fun h=>?_) fun h=>?_
       ·refine E8 ?_
        refine F9 ?_
        refine u6 (oA 2 rfl ?_)
        rcases o8 h with ⟨⟨r21,at22⟩,g19,h⟩ | ⟨⟨at24,at25⟩,g21,h⟩
        ·obtain ⟨r21_0,r21_1,r21_2,r21_3⟩:=r21
         refine oV (hΦ.D6 g19) ?_
         refine oA 1 rfl ?_
         obtain ⟨l23,g20,h⟩:=o9 h
         refine oP b0r g20 ?_
         refine oB 1 rfl ?_
         exact ⟨_,_,rfl,ih (_,_) _ h⟩
        ·refine oW (hΦ.D6 g21) ?_
         cases h
         exact ⟨_,rfl,_,_,rfl,rfl⟩
       ·refine V7 ?_
        cases h
        exact ⟨_,rfl,rfl⟩
      ·subst hx
       obtain ⟨c0o,a2F⟩:=z24
       refine u6 (oA 1 rfl ?_)
       rcases o8 h with ⟨at26,g22,h⟩ | ⟨⟨at27,at28⟩,g23,h⟩
       ·refine oV (o7 g22) ?_
        refine D5 ?_
        cases h
        exact ⟨_,rfl,rfl⟩
       ·refine oW (o7 g23) ?_
        cases h
        exact ⟨_,rfl,_,_,rfl,rfl⟩
      ·subst hz
       rcases res with ⟨_ | _ | _ | _,_,_⟩ <;> first | exact absurd rfl hn | exact hr.elim | (cases h; exact ⟨_,rfl,hr⟩)
     ·refine oW (hΦ.D6 g25) ?_
      cases h
      exact ⟨_,rfl,_,_,rfl,rfl⟩
    ·refine E8 ?_
     cases h
     exact ⟨_,rfl,rfl⟩
   ·subst hx
    obtain ⟨c0l,a5M⟩:=z31
    refine eSG (oA 1 rfl ?_)
    rcases o8 h with ⟨at31,g26,h⟩ | ⟨⟨at37,at38⟩,g30,h⟩
    ·refine oV (o7 g26) ?_
     refine D5 (eSG (oA 2 rfl ?_))
     rcases o8 h with ⟨⟨r32,at33⟩,g27,h⟩ | ⟨⟨at35,at36⟩,g29,h⟩
     ·obtain ⟨r32_0,r32_1,r32_2,r32_3⟩:=r32
      refine oV (hΦ.D6 g27) ?_
      refine oA 1 rfl ?_
      obtain ⟨l34,g28,h⟩:=o9 h
      refine oP b0r g28 ?_
      refine oB 1 rfl (eSG (oA 1 rfl ?_))
      refine oD ?_
      refine oB 1 rfl ?_
      cases h
      exact D7 ⟨_,_,_,rfl,rfl,rfl⟩
     ·refine oW (hΦ.D6 g29) ?_
      cases h
      exact ⟨_,_,rfl,rfl⟩
    ·refine oW (o7 g30) ?_
     cases h
     exact ⟨_,_,rfl,rfl⟩
   ·subst hz
    rcases res with ⟨_ | _ | _ | _,_,_⟩ <;> first | exact absurd rfl hn | exact hr.elim | (cases h; exact hr)
theorem a9M (n:Nat) {Φ:A9} (hΦ:Φ.Ok) {inExpr1:Bool} {D8:List Tok} {at3:Int} {J7:Int} {r:Rs (Typ × Int) (Int × Int)} (h:Y0 n Φ inExpr1 D8 at3 J7 = some r) :
  E env (.call 89 [.ptr 0 0,.bool inExpr1]) (hP C8 D8 at3 J7) = some (a1i inExpr1 D8 at3 J7 r):=by
 unfold Y0 at h
 refine K6 rfl Tryz.func89 rfl rfl ?_
 refine eSG (oB 1 rfl (eSG (oA 1 rfl ?_)))
 rcases o8 h with ⟨r5,g1,h⟩ | ⟨at28,g33,h⟩
 ·refine oV (F7 g1) ?_
  refine oB 1 rfl (eSG (oB 1 rfl ?_))
  obtain ⟨y2,g3,h⟩:=R6 h
  refine U2 (KR:=fun r=>a2E env 89 1 Tryz.f89.results.toList (a1i inExpr1 D8 at3 J7 r)) y2 (fun z32=>[(0,.ptr 0 0),(1,.bool inExpr1),(4,.ptr 1 0),(5,.str r5),(6,.st 2 p9 z32.1)]) (fun z32=>[(0,.row [.sl C8 D8,.i z32.2,.i J7]),(1,.row [.i 0,.str [],.i 0,.st 3 p9 ([]:List Typ)]),(2,.tip (tpe 4 (List.length z32.1)) (List.length z32.1)),(3,.tip 0 0)]) rfl ?_ (fun z32 hx=>?_) (fun r res hz hr hn=>?_)
  ·replace h:=g3
   clear g3
   refine eSG (oA 1 rfl ?_)
   obtain ⟨⟨r6,at7⟩,g4,h⟩:=o9 h
   refine oV (D9 g4) ?_
   refine D5 ?_
   refine eI rfl h (fun h=>?_) fun h=>?_
   ·refine eSG (oA 2 rfl ?_)
    rcases o8 h with ⟨⟨r8,at9⟩,g6,h⟩ | ⟨⟨at21,at22⟩,g18,h⟩
    ·obtain ⟨r8_0,r8_1,r8_2,r8_3⟩:=r8
     refine oV (hΦ.D6 g6) ?_
     refine oA 1 rfl ?_
     obtain ⟨l10,g7,h⟩:=o9 h
     refine a6L b0r g7 rfl rfl rfl rfl (.inl rfl) rfl rfl rfl rfl rfl rfl rfl rfl rfl rfl (a7f (a1Y rfl) rfl) rfl rfl rfl ?_
     refine oB 1 rfl ?_
     obtain ⟨y8,g9,h⟩:=a3o h
     refine U2 (KR:=fun r=>a2E env 89 1 Tryz.f89.results.toList (a1i inExpr1 D8 at3 J7 r)) y8 (fun z17=>[(0,.ptr 0 0),(1,.bool inExpr1),(4,.ptr 1 0),(5,.str r5),(6,.st 2 p9 z17.1)]) (fun z17=>[(0,.row [.sl C8 D8,.i z17.2,.i J7]),(1,.row [.i 0,.str [],.i 0,.st 3 p9 ([]:List Typ)]),(2,.tip (tpe 4 (List.length z17.1)) (List.length z17.1)),(3,.tip 0 0)]) rfl ?_ (fun z17 hx=>?_) (fun r res hz hr hn=>?_)
     ·replace h:=g9
      clear g9
      refine F9 ?_
      refine Y1 rfl ?_
      revert y8
      refine a0x (fun m (x:List Typ × Int)=>a0i n Φ J7 D8 m x.1 x.2) (fun x=>[(0,.ptr 0 0),(1,.bool inExpr1),(4,.ptr 1 0),(5,.str r5),(6,.st 2 p9 x.1)]) (fun x=>[(0,.row [.sl C8 D8,.i x.2,.i J7]),(1,.row [.i 0,.str [],.i 0,.st 3 p9 ([]:List Typ)]),(2,.tip (tpe 4 (List.length x.1)) (List.length x.1)),(3,.tip 0 0)]) _ (fun _=>rfl) (fun m5 x y ih h=>?_) n (l10,at9)
      obtain ⟨b7d,a1y⟩:=x
      rw [a0i] at h
      refine H8 (eSG (oA 1 rfl ?_))
      obtain ⟨⟨r11,at12⟩,g10,h⟩:=o9 h
      refine oV (D9 g10) ?_
      refine D5 ?_
      refine eI rfl h (fun h=>?_) fun h=>?_
      ·refine E8 ?_
       refine F9 ?_
       refine u6 (oA 2 rfl ?_)
       rcases o8 h with ⟨⟨r13,at14⟩,g12,h⟩ | ⟨⟨at16,at17⟩,g14,h⟩
       ·obtain ⟨r13_0,r13_1,r13_2,r13_3⟩:=r13
        refine oV (hΦ.D6 g12) ?_
        refine oA 1 rfl ?_
        obtain ⟨l15,g13,h⟩:=o9 h
        refine oP b0r g13 ?_
        refine oB 1 rfl ?_
        exact ⟨_,_,rfl,ih (_,_) _ h⟩
       ·refine oW (hΦ.D6 g14) ?_
        cases h
        exact ⟨_,rfl,_,_,rfl,rfl⟩
      ·refine V7 ?_
       cases h
       exact ⟨_,rfl,rfl⟩
     ·subst hx
      obtain ⟨c0m,a2P⟩:=z17
      refine u6 (oA 1 rfl ?_)
      rcases o8 h with ⟨at18,g15,h⟩ | ⟨⟨at19,at20⟩,g16,h⟩
      ·refine oV (o7 g15) ?_
       refine D5 ?_
       cases h
       exact ⟨_,rfl,rfl⟩
      ·refine oW (o7 g16) ?_
       cases h
       exact ⟨_,rfl,_,_,rfl,rfl⟩
     ·subst hz
      rcases res with ⟨_ | _ | _ | _,_,_⟩ <;> first | exact absurd rfl hn | exact hr.elim | (cases h; exact ⟨_,rfl,hr⟩)
    ·refine oW (hΦ.D6 g18) ?_
     cases h
     exact ⟨_,rfl,_,_,rfl,rfl⟩
   ·refine E8 ?_
    cases h
    exact ⟨_,rfl,rfl⟩
  ·subst hx
   obtain ⟨c0k,a3n⟩:=z32
   refine eSG (oA 2 rfl ?_)
   obtain ⟨r23,g19,h⟩:=o9 h
   obtain ⟨r23_0,r23_1,r23_2,r23_3⟩:=r23
   refine a0t rfl rfl rfl rfl rfl (b5o g19) rfl ?_
   refine oB 2 rfl ?_
   obtain ⟨y20,g21,h⟩:=R6 h
   refine U2 (KR:=fun r=>a2E env 89 1 Tryz.f89.results.toList (a1i inExpr1 D8 at3 J7 r)) y20 (fun z31=>[(4,.ptr 1 0),(7,.ptr 2 0)]) (fun z31=>[(0,.row [.sl C8 D8,.i z31.1,.i J7]),(1,.row [.i 0,.str [],.i 0,.st 3 p9 ([]:List Typ)]),(2,.row [.i z31.2.kind,.str z31.2.name,.i z31.2.n,.sl p9 z31.2.args]),(3,.tip 0 0)]) rfl ?_ (fun z31 hx=>?_) (fun r res hz hr hn=>?_)
   ·replace h:=g21
    clear g21
    refine F9 ?_
    refine Y1 rfl ?_
    revert y20
    refine a0x (fun m (x:Int × Typ)=>K9 n Φ inExpr1 J7 D8 m x.1 x.2) (fun x=>[(0,.ptr 0 0),(1,.bool inExpr1),(4,.ptr 1 0),(7,.ptr 2 0)]) (fun x=>[(0,.row [.sl C8 D8,.i x.1,.i J7]),(1,.row [.i 0,.str [],.i 0,.st 3 p9 ([]:List Typ)]),(2,.row [.i x.2.kind,.str x.2.name,.i x.2.n,.sl p9 x.2.args]),(3,.tip 0 0)]) _ (fun _=>rfl) (fun m9 x y ih h=>?_) n (a3n,(Typ.mk r23_0 r23_1 r23_2 r23_3))
    obtain ⟨b1j,n533⟩:=x
    obtain ⟨n533_0,n533_1,n533_2,n533_3⟩:=n533
    rw [K9] at h
    refine H8 ?_
    obtain ⟨y22,g23,h⟩:=o9 h
    refine a15 [(0,.ptr 0 0),(1,.bool inExpr1),(4,.ptr 1 0),(7,.ptr 2 0),(38,.bool y22)] [(0,.row [.sl C8 D8,.i b1j,.i J7]),(1,.row [.i 0,.str [],.i 0,.st 3 p9 ([]:List Typ)]),(2,.row [.i n533_0,.str n533_1,.i n533_2,.sl p9 n533_3]),(3,.tip 0 0)] rfl ?_ ?_
    ·replace h:=g23
     clear g23
     refine u6 (oA 1 rfl ?_)
     obtain ⟨r24,g24,h⟩:=o9 h
     refine oV (G6 g24) ?_
     refine oA 1 rfl ?_
     refine M9 rfl rfl rfl (fun g25=>?_) (fun g25=>?_)
     ·replace h:=a2I h g25
      refine oA 2 rfl ?_
      refine M9 rfl rfl rfl (fun g26=>?_) (fun g26=>?_)
      ·replace h:=a2I h g26
       refine oA 1 rfl ?_
       obtain ⟨r25,g27,h⟩:=o9 h
       refine oV (G6 g27) ?_
       refine oB 3 rfl ?_
       cases h
       exact rfl
      ·replace h:=a2H h g26
       refine oB 5 rfl ?_
       cases h
       exact rfl
     ·replace h:=a2H h g25
      refine oB 7 rfl ?_
      cases h
      exact rfl
    ·obtain ⟨x546,rfl⟩:∃ q,q = y22:=⟨_,rfl⟩
     refine eI rfl h (fun h=>?_) fun h=>?_
     ·refine E8 ?_
      refine F9 ?_
      refine eSG (oB 8 rfl ?_)
      refine Q0 [2] rfl ?_
      refine oC rfl rfl (oC rfl rfl (oC rfl rfl (K3 rfl ?_)))
      rcases o8 h with ⟨r26,g29,h⟩ | ⟨at27,g30,h⟩
      ·refine oV (F7 g29) ?_
       refine D5 (K3 rfl ?_)
       refine oD ?_
       refine D5 (oC rfl rfl ?_)
       refine a0X ?_
       refine ⟨rfl,?_⟩
       exact ⟨_,_,rfl,ih (_,_) _ h⟩
      ·refine oW (F7 g30) ?_
       refine ⟨rfl,rfl,_,_,rfl,?_⟩
       cases h
       exact ⟨_,rfl,_,_,rfl,rfl⟩
     ·refine V7 ?_
      cases h
      exact ⟨_,rfl,rfl⟩
   ·subst hx
    obtain ⟨b2f,n550⟩:=z31
    obtain ⟨n550_0,n550_1,n550_2,n550_3⟩:=n550
    refine eSG (oB 2 rfl ?_)
    cases h
    exact D7 ⟨_,_,_,rfl,rfl,rfl⟩
   ·subst hz
    rcases res with ⟨_ | _ | _ | _,_,_⟩ <;> first | exact absurd rfl hn | exact hr.elim | (cases h; exact hr)
  ·subst hz
   rcases res with ⟨_ | _ | _ | _,_,_⟩ <;> first | exact absurd rfl hn | exact hr.elim | (cases h; exact hr)
 ·refine oW (F7 g33) ?_
  cases h
  exact ⟨_,_,rfl,rfl⟩
theorem A9.ok:∀ n,(A9.fs n).Ok
 | 0=>⟨(fun h=>by cases h),(fun h=>by cases h)⟩
 | n + 1=>⟨(fun h=>b0k n (A9.ok n) h),(fun h=>a9M n (A9.ok n) h)⟩
theorem J6 {n:Nat} {d9:List Tok} {at2:Int} {j6:Int} {r:Rs (Typ × Int) (Int × Int)} (h:D6 n d9 at2 j6 = some r) :
  E env (.call 60 [.ptr 0 0]) (hP C8 d9 at2 j6) = some (a1Z d9 at2 j6 r):=(A9.ok n).D6 h
theorem a6t {n:Nat} {inExpr1:Bool} {D8:List Tok} {at3:Int} {J7:Int} {r:Rs (Typ × Int) (Int × Int)} (h:P6 n inExpr1 D8 at3 J7 = some r) :
  E env (.call 89 [.ptr 0 0,.bool inExpr1]) (hP C8 D8 at3 J7) = some (a1i inExpr1 D8 at3 J7 r):=(A9.ok n).P6 h
theorem a2D {n:Nat} {d9:List Tok} {at2:Int} {j6:Int} {r:Rs (List Nod × Int) (Int × Int)} (h:a0U n d9 at2 j6 = some r) :
  E env (.call 61 [.ptr 0 0]) (hP C8 d9 at2 j6) = some (a5F d9 at2 j6 r):=by
 unfold a0U at h
 refine K6 rfl Tryz.func61 rfl rfl ?_
 refine eSG (oB 1 rfl (eSG (oB 1 rfl (H8 (eSG (oA 1 rfl ?_))))))
 obtain ⟨⟨r4,at5⟩,g1,h⟩:=o9 h
 refine oV (J9 g1) ?_
 refine oB 1 rfl ?_
 refine eI rfl h (fun h=>?_) fun h=>?_
 ·refine eSG (oB 1 rfl ?_)
  cases h
  exact D7 ⟨_,_,_,rfl,rfl,rfl⟩
 ·refine E8 ?_
  refine F9 ?_
  refine Y1 rfl ?_
  obtain ⟨yq,hq⟩:∃ y,y = r:=⟨_,rfl⟩
  rw [<- hq] at h ⊢
  clear hq
  revert yq
  refine a0x (fun m (x:List Nod × Int)=>X3 n j6 d9 m x.1 x.2) (fun x=>[(0,.ptr 0 0),(3,.st 1 F6 x.1)]) (fun x=>[(0,.row [.sl C8 d9,.i x.2,.i j6]),(1,.tip (tpe 10 (List.length x.1)) (List.length x.1))]) _ (fun _=>rfl) (fun m4 x y ih h=>?_) n (([]:List Nod),at5)
  obtain ⟨l509,a5M⟩:=x
  rw [X3] at h
  refine F9 ?_
  refine eSG (oA 1 rfl ?_)
  obtain ⟨at6,g3,h⟩:=o9 h
  refine oV (E5 g3) ?_
  refine oB 2 rfl (eSG (oA 1 rfl ?_))
  rcases o8 h with ⟨⟨r7,at8⟩,g4,h⟩ | ⟨⟨at23,at24⟩,g19,h⟩
  ·obtain ⟨r7_0,r7_1,r7_2,r7_3⟩:=r7
   refine oV (J6 g4) ?_
   refine oB 2 rfl ?_
   obtain ⟨y5,g6,h⟩:=R6 h
   refine U2 (KR:=fun r=>a2E env 61 1 Tryz.f61.results.toList (a5F d9 at2 j6 r)) y5 (fun z18=>[(0,.ptr 0 0),(3,.st 1 F6 l509),(4,.ptr 2 0)]) (fun z18=>[(0,.row [.sl C8 d9,.i z18.1,.i j6]),(1,.tip (tpe 10 (List.length l509)) (List.length l509)),(2,.row (c0 12 z18.2.1 z18.2.2.1 r7_0 r7_1 r7_2 (.sl p9 r7_3) (.st 3 p9 z18.2.2.2) (.st 4 F6 ([]:List Nod)) at6)),(3,.tip (tpe 4 (List.length z18.2.2.2)) (List.length z18.2.2.2)),(4,.tip 0 0)]) rfl ?_ (fun z18 hx=>?_) (fun r res hz hr hn=>?_)
   ·replace h:=g6
    clear g6
    refine eSG (oA 1 rfl ?_)
    obtain ⟨⟨r9,at10⟩,g7,h⟩:=o9 h
    refine oV (D9 g7) ?_
    refine D5 ?_
    refine eI rfl h (fun h=>?_) fun h=>?_
    ·refine eSG (oB 2 rfl (u6 (oA 1 rfl ?_)))
     rcases o8 h with ⟨⟨r11,at12⟩,g9,h⟩ | ⟨⟨at13,at14⟩,g10,h⟩
     ·obtain ⟨r11_0,r11_1,r11_2,r11_3⟩:=r11
      refine oV (J6 g9) ?_
      refine oB 3 rfl ?_
      cases h
      exact ⟨_,rfl,rfl⟩
     ·refine oW (J6 g10) ?_
      cases h
      exact ⟨_,rfl,_,_,rfl,rfl⟩
    ·refine eSG (oA 1 rfl ?_)
     rcases o8 h with ⟨at15,g11,h⟩ | ⟨⟨at18,at19⟩,g14,h⟩
     ·refine oV (o7 g11) ?_
      refine D5 (eSG (oB 2 rfl (u6 (oA 1 rfl ?_))))
      rcases o8 h with ⟨r16,g12,h⟩ | ⟨at17,g13,h⟩
      ·refine oV (F7 g12) ?_
       refine oB 2 rfl ?_
       cases h
       exact ⟨_,rfl,rfl⟩
      ·refine oW (F7 g13) ?_
       cases h
       exact ⟨_,rfl,_,_,rfl,rfl⟩
     ·refine oW (o7 g14) ?_
      cases h
      exact ⟨_,rfl,_,_,rfl,rfl⟩
   ·subst hx
    obtain ⟨a6C,s518,n519,ts520⟩:=z18
    refine eSG (oA 3 rfl ?_)
    obtain ⟨l20,g15,h⟩:=o9 h
    refine oP U0 g15 ?_
    refine oB 1 rfl (eSG (oA 1 rfl ?_))
    obtain ⟨⟨r21,at22⟩,g16,h⟩:=o9 h
    refine oV (D9 g16) ?_
    refine oB 1 rfl ?_
    refine eI rfl h (fun h=>?_) fun h=>?_
    ·refine eSG (oB 2 rfl ?_)
     cases h
     exact D7 ⟨_,_,_,rfl,rfl,rfl⟩
    ·refine E8 ?_
     exact ⟨_,_,rfl,ih (_,_) _ h⟩
   ·subst hz
    rcases res with ⟨_ | _ | _ | _,_,_⟩ <;> first | exact absurd rfl hn | exact hr.elim | (cases h; exact hr)
  ·refine oW (J6 g19) ?_
   cases h
   exact ⟨_,_,rfl,rfl⟩
theorem G8 {d9:List Tok} {at2:Int} {j6:Int} {r:Rs Str Int} (h:K5 d9 at2 j6 = some r) :
  E env (.call 65 [.ptr 0 0]) (hP C8 d9 at2 j6) = some (b0g d9 at2 j6 r):=by
 unfold K5 at h
 refine K6 rfl Tryz.func65 rfl rfl ?_
 refine eSG (oB 1 rfl (eSG (oA 1 rfl ?_)))
 rcases o8 h with ⟨r4,g1,h⟩ | ⟨at5,g2,h⟩
 ·refine oV (L8 g1) ?_
  refine oB 2 rfl ?_
  cases h
  exact D7 ⟨_,_,_,rfl,rfl,rfl⟩
 ·refine oW (L8 g2) ?_
  cases h
  exact ⟨_,_,rfl,rfl⟩
theorem a2k {n:Nat} {d9:List Tok} {at2:Int} {j6:Int} {r:Rs (List Nod × Int) (Int × Int)} (h:U4 n d9 at2 j6 = some r) :
  E env (.call 87 [.ptr 0 0]) (hP C8 d9 at2 j6) = some (a5k d9 at2 j6 r):=by
 unfold U4 at h
 refine K6 rfl Tryz.func87 rfl rfl ?_
 refine eSG (oB 1 rfl (eSG (oB 1 rfl (eSG (oA 1 rfl ?_)))))
 rcases o8 h with ⟨at4,g1,h⟩ | ⟨⟨at27,at28⟩,g25,h⟩
 ·refine oV (o7 g1) ?_
  refine D5 (H8 (eSG (oA 1 rfl ?_)))
  obtain ⟨⟨r5,at6⟩,g2,h⟩:=o9 h
  refine oV (D9 g2) ?_
  refine D5 ?_
  refine eI rfl h (fun h=>?_) fun h=>?_
  ·refine eSG (oB 1 rfl ?_)
   cases h
   exact D7 ⟨_,_,_,rfl,rfl,rfl⟩
  ·refine E8 ?_
   obtain ⟨y4,g5,h⟩:=R6 h
   refine U2 (KR:=fun r=>a2E env 87 1 Tryz.f87.results.toList (a5k d9 at2 j6 r)) y4 (fun z24=>[(0,.ptr 0 0),(3,.st 1 F6 z24.1)]) (fun z24=>[(0,.row [.sl C8 d9,.i z24.2,.i j6]),(1,.tip (tpe 10 (List.length z24.1)) (List.length z24.1))]) rfl ?_ (fun z24 hx=>?_) (fun r res hz hr hn=>?_)
   ·replace h:=g5
    clear g5
    refine F9 ?_
    refine Y1 rfl ?_
    revert y4
    refine a0x (fun m (x:List Nod × Int)=>U9 n j6 d9 m x.1 x.2) (fun x=>[(0,.ptr 0 0),(3,.st 1 F6 x.1)]) (fun x=>[(0,.row [.sl C8 d9,.i x.2,.i j6]),(1,.tip (tpe 10 (List.length x.1)) (List.length x.1))]) _ (fun _=>rfl) (fun m5 x y ih h=>?_) n (([]:List Nod),at6)
    obtain ⟨a9C,a4h⟩:=x
    rw [U9] at h
    refine F9 ?_
    refine eSG (oA 1 rfl ?_)
    obtain ⟨at7,g6,h⟩:=o9 h
    refine oV (E5 g6) ?_
    refine oB 2 rfl ?_
    obtain ⟨y7,g8,h⟩:=o9 h
    refine a15 [(0,.ptr 0 0),(3,.st 1 F6 a9C),(4,.ptr 2 0)] [(0,.row [.sl C8 d9,.i y7.1,.i j6]),(1,.tip (tpe 10 (List.length a9C)) (List.length a9C)),(2,.row [.i 10,.str [],.i y7.2,.i 0,.str [],.i 0,.sl p9 ([]:List Typ),.st 3 p9 ([]:List Typ),.st 4 F6 ([]:List Nod),.i at7]),(3,.tip 0 0),(4,.tip 0 0)] rfl ?_ ?_
    ·replace h:=g8
     clear g8
     refine eSG (oA 1 rfl ?_)
     obtain ⟨⟨r8,at9⟩,g9,h⟩:=o9 h
     refine oV (J9 g9) ?_
     refine D5 ?_
     refine eI rfl h (fun h=>?_) fun h=>?_
     ·refine u6 (oB 2 rfl ?_)
      cases h
      exact rfl
     ·refine eSG (oA 1 rfl ?_)
      obtain ⟨⟨r10,at11⟩,g11,h⟩:=o9 h
      refine oV (J9 g11) ?_
      refine D5 ?_
      refine eI rfl h (fun h=>?_) fun h=>?_
      ·refine u6 (oB 2 rfl ?_)
       cases h
       exact rfl
      ·refine E8 ?_
       cases h
       exact rfl
    ·obtain ⟨b6a,n517⟩:=y7
     refine eSG (oA 1 rfl ?_)
     rcases o8 h with ⟨r12,g13,h⟩ | ⟨at23,g21,h⟩
     ·refine oV (G8 g13) ?_
      refine oB 2 rfl (eSG (oA 1 rfl ?_))
      rcases o8 h with ⟨at13,g14,h⟩ | ⟨⟨at21,at22⟩,g20,h⟩
      ·refine oV (o7 g14) ?_
       refine D5 (eSG (oA 1 rfl ?_))
       rcases o8 h with ⟨⟨r14,at15⟩,g15,h⟩ | ⟨⟨at19,at20⟩,g19,h⟩
       ·obtain ⟨r14_0,r14_1,r14_2,r14_3⟩:=r14
        refine oV (J6 g15) ?_
        refine oB 2 rfl (eSG (oA 3 rfl ?_))
        obtain ⟨l16,g16,h⟩:=o9 h
        refine oP U0 g16 ?_
        refine oB 1 rfl (eSG (oA 1 rfl ?_))
        obtain ⟨⟨r17,at18⟩,g17,h⟩:=o9 h
        refine oV (D9 g17) ?_
        refine oB 1 rfl ?_
        refine eI rfl h (fun h=>?_) fun h=>?_
        ·refine V7 ?_
         cases h
         exact ⟨_,rfl,rfl⟩
        ·refine E8 ?_
         exact ⟨_,_,rfl,ih (_,_) _ h⟩
       ·refine oW (J6 g19) ?_
        cases h
        exact ⟨_,rfl,_,_,rfl,rfl⟩
      ·refine oW (o7 g20) ?_
       cases h
       exact ⟨_,rfl,_,_,rfl,rfl⟩
     ·refine oW (G8 g21) ?_
      cases h
      exact ⟨_,rfl,_,_,rfl,rfl⟩
   ·subst hx
    obtain ⟨l508,b0o⟩:=z24
    refine eSG (oA 1 rfl ?_)
    rcases o8 h with ⟨at24,g22,h⟩ | ⟨⟨at25,at26⟩,g23,h⟩
    ·refine oV (o7 g22) ?_
     refine D5 (eSG (oB 2 rfl ?_))
     cases h
     exact D7 ⟨_,_,_,rfl,rfl,rfl⟩
    ·refine oW (o7 g23) ?_
     cases h
     exact ⟨_,_,rfl,rfl⟩
   ·subst hz
    rcases res with ⟨_ | _ | _ | _,_,_⟩ <;> first | exact absurd rfl hn | exact hr.elim | (cases h; exact hr)
 ·refine oW (o7 g25) ?_
  cases h
  exact ⟨_,_,rfl,rfl⟩
theorem a2l {n:Nat} {d9:List Tok} {at2:Int} {j6:Int} {r:Rs (Typ × Int) (Int × Int)} (h:R7 n d9 at2 j6 = some r) :
  E env (.call 88 [.ptr 0 0]) (hP C8 d9 at2 j6) = some (a9f d9 at2 j6 r):=by
 unfold R7 at h
 refine K6 rfl Tryz.func88 rfl rfl ?_
 refine eSG (oB 1 rfl (H8 (eSG (oA 1 rfl ?_))))
 obtain ⟨⟨r4,at5⟩,g1,h⟩:=o9 h
 refine oV (D9 g1) ?_
 refine D5 ?_
 refine eI rfl h (fun h=>?_) fun h=>?_
 ·refine eSG (oA 1 rfl ?_)
  rcases o8 h with ⟨⟨r6,at7⟩,g3,h⟩ | ⟨⟨at8,at9⟩,g4,h⟩
  ·obtain ⟨r6_0,r6_1,r6_2,r6_3⟩:=r6
   refine oV (J6 g3) ?_
   refine oB 1 rfl ?_
   cases h
   exact D7 ⟨_,_,_,rfl,rfl,rfl⟩
  ·refine oW (J6 g4) ?_
   cases h
   exact ⟨_,_,rfl,rfl⟩
 ·refine E8 (eSG ?_)
  refine oD ?_
  refine oB 1 rfl ?_
  cases h
  exact D7 ⟨_,_,_,rfl,rfl,rfl⟩
end Go.Proofs.YtlfomdllnidliaaGreatDoor
namespace Go.Proofs.YtlfomdllnidliaaGreatDoor
open Go Go.Vm
theorem a1I {n:Nat} {d9:List Tok} {at2:Int} {j6:Int} {r:Rs (Str × Typ × List Nod × Int × Int) (Int × Int)} (h:V3 n d9 at2 j6 = some r) :
  E env (.call 59 [.ptr 0 0]) (hP C8 d9 at2 j6) = some (a4q d9 at2 j6 r):=by
 unfold V3 at h
 refine K6 rfl Tryz.func59 rfl rfl ?_
 refine eSG (oB 1 rfl (eSG (oA 1 rfl ?_)))
 obtain ⟨at4,g1,h⟩:=o9 h
 refine oV (E5 g1) ?_
 refine oB 2 rfl (eSG (oA 1 rfl ?_))
 rcases o8 h with ⟨at5,g2,h⟩ | ⟨⟨at40,at41⟩,g28,h⟩
 ·refine oV (I6 g2) ?_
  refine D5 (eSG (oA 1 rfl ?_))
  rcases o8 h with ⟨r6,g3,h⟩ | ⟨at39,g27,h⟩
  ·refine oV (G8 g3) ?_
   refine oB 2 rfl (eSG (oA 1 rfl ?_))
   rcases o8 h with ⟨⟨r7,at8⟩,g4,h⟩ | ⟨⟨at37,at38⟩,g26,h⟩
   ·refine oV (Y5 g4) ?_
    refine oB 2 rfl (H8 ?_)
    refine Q0 [256] rfl ?_
    refine oC rfl rfl (oC rfl rfl (oC rfl rfl (K3 rfl ?_)))
    rcases o8 h with ⟨⟨r9,at10⟩,g5,h⟩ | ⟨⟨at35,at36⟩,g25,h⟩
    ·refine oV (a2k g5) ?_
     refine D5 (K3 rfl ?_)
     obtain ⟨l11,g6,h⟩:=o9 h
     refine b2x U0 g6 rfl rfl rfl rfl rfl rfl rfl rfl rfl rfl rfl rfl rfl rfl (a7f (a1Y (a18.length U0 _).symm) rfl) rfl rfl rfl ?_
     refine D5 (oC rfl rfl (oC rfl rfl ?_))
     refine a0X ?_
     refine ⟨rfl,?_⟩
     refine eSG (oA 1 rfl ?_)
     obtain ⟨at12,g7,h⟩:=o9 h
     refine oV (E5 g7) ?_
     refine oB 2 rfl ?_
     obtain ⟨y8,g9,h⟩:=R6 h
     refine U2 (KR:=fun r=>a2E env 59 1 Tryz.f59.results.toList (a4q d9 at2 j6 r)) y8 (fun z24=>[(0,.ptr 0 0),(2,.ptr 1 0),(3,.ptr 2 0)]) (fun z24=>[(0,.row [.sl C8 d9,.i z24.1,.i j6]),(1,.row [.i 0,.str [],.i 0,.i 0,.str [],.i 0,.st 3 p9 ([]:List Typ),.st 4 p9 ([]:List Typ),.st 5 F6 ([]:List Nod),.i 0]),(2,.row [.i 7,.str r6,.i 0,.i 0,.str [],.i 0,.sl p9 ([]:List Typ),.st 6 p9 ([]:List Typ),.st 7 F6 z24.2,.i at4]),(3,.tip 0 0),(4,.tip 0 0),(5,.tip 0 0),(6,.tip 0 0),(7,.tip (tpe 10 (List.length z24.2)) (List.length z24.2))]) rfl ?_ (fun z24 hx=>?_) (fun r res hz hr hn=>?_)
     ·replace h:=g9
      clear g9
      refine eSG (oA 1 rfl ?_)
      obtain ⟨⟨r13,at14⟩,g10,h⟩:=o9 h
      refine oV (J9 g10) ?_
      refine D5 ?_
      refine eI rfl h (fun h=>?_) fun h=>?_
      ·refine eSG (oA 1 rfl ?_)
       rcases o8 h with ⟨at15,g12,h⟩ | ⟨⟨at24,at25⟩,g18,h⟩
       ·refine oV (o7 g12) ?_
        refine D5 (eSG (oA 1 rfl ?_))
        rcases o8 h with ⟨⟨r16,at17⟩,g13,h⟩ | ⟨⟨at22,at23⟩,g17,h⟩
        ·obtain ⟨r16_0,r16_1,r16_2,r16_3⟩:=r16
         refine oV (J6 g13) ?_
         refine oB 2 rfl (eSG (oA 1 rfl ?_))
         rcases o8 h with ⟨at18,g14,h⟩ | ⟨⟨at20,at21⟩,g16,h⟩
         ·refine oV (o7 g14) ?_
          refine D5 (u6 (oA 4 rfl ?_))
          obtain ⟨l19,g15,h⟩:=o9 h
          refine oP U0 g15 ?_
          refine oB 2 rfl ?_
          cases h
          exact ⟨_,rfl,rfl⟩
         ·refine oW (o7 g16) ?_
          cases h
          exact ⟨_,rfl,_,_,rfl,rfl⟩
        ·refine oW (J6 g17) ?_
         cases h
         exact ⟨_,rfl,_,_,rfl,rfl⟩
       ·refine oW (o7 g18) ?_
        cases h
        exact ⟨_,rfl,_,_,rfl,rfl⟩
      ·refine E8 ?_
       cases h
       exact ⟨_,rfl,rfl⟩
     ·subst hx
      obtain ⟨a4h,l508⟩:=z24
      refine eSG (oA 1 rfl ?_)
      rcases o8 h with ⟨⟨r26,at27⟩,g19,h⟩ | ⟨⟨at33,at34⟩,g23,h⟩
      ·obtain ⟨r26_0,r26_1,r26_2,r26_3⟩:=r26
       refine oV (a2l g19) ?_
       refine oB 2 rfl (H8 ?_)
       refine Q0 [2] rfl ?_
       refine oC rfl rfl (oC rfl rfl (oC rfl rfl (K3 rfl ?_)))
       rcases o8 h with ⟨⟨r28,at29⟩,g20,h⟩ | ⟨⟨at31,at32⟩,g22,h⟩
       ·refine oV (a2D g20) ?_
        refine D5 (K3 rfl ?_)
        obtain ⟨l30,g21,h⟩:=o9 h
        refine b2x U0 g21 rfl rfl rfl rfl rfl rfl rfl rfl rfl rfl rfl rfl rfl rfl (a7f (a1Y (a18.length U0 _).symm) rfl) rfl rfl rfl ?_
        refine D5 (oC rfl rfl (oC rfl rfl ?_))
        refine a0X ?_
        refine ⟨rfl,?_⟩
        refine eSG (oB 2 rfl ?_)
        cases h
        exact D7 ⟨_,_,_,rfl,rfl,rfl⟩
       ·refine oW (a2D g22) ?_
        refine ⟨rfl,rfl,_,_,rfl,?_⟩
        cases h
        exact ⟨_,_,rfl,rfl⟩
      ·refine oW (a2l g23) ?_
       cases h
       exact ⟨_,_,rfl,rfl⟩
     ·subst hz
      rcases res with ⟨_ | _ | _ | _,_,_⟩ <;> first | exact absurd rfl hn | exact hr.elim | (cases h; exact hr)
    ·refine oW (a2k g25) ?_
     refine ⟨rfl,rfl,_,_,rfl,?_⟩
     cases h
     exact ⟨_,_,rfl,rfl⟩
   ·refine oW (Y5 g26) ?_
    cases h
    exact ⟨_,_,rfl,rfl⟩
  ·refine oW (G8 g27) ?_
   cases h
   exact ⟨_,_,rfl,rfl⟩
 ·refine oW (I6 g28) ?_
  cases h
  exact ⟨_,_,rfl,rfl⟩
theorem a4T {n:Nat} {d9:List Tok} {at2:Int} {j6:Int} {r:Rs (Nod × Int) (Int × Int)} (h:a0w n d9 at2 j6 = some r) :
  E env (.call 25 [.ptr 0 0]) (hP C8 d9 at2 j6) = some (a2K d9 at2 j6 r):=by
 unfold a0w at h
 refine K6 rfl Tryz.func25 rfl rfl ?_
 refine eSG (oB 1 rfl (eSG (oA 1 rfl ?_)))
 obtain ⟨at4,g1,h⟩:=o9 h
 refine oV (E5 g1) ?_
 refine oB 2 rfl (eSG (oA 1 rfl ?_))
 rcases o8 h with ⟨at5,g2,h⟩ | ⟨⟨at38,at39⟩,g32,h⟩
 ·refine oV (I6 g2) ?_
  refine D5 (eSG (oA 1 rfl ?_))
  rcases o8 h with ⟨r6,g3,h⟩ | ⟨at37,g31,h⟩
  ·refine oV (F7 g3) ?_
   refine oB 2 rfl (eSG (oA 1 rfl ?_))
   rcases o8 h with ⟨at7,g4,h⟩ | ⟨⟨at35,at36⟩,g30,h⟩
   ·refine oV (o7 g4) ?_
    refine D5 ?_
    obtain ⟨y5,g6,h⟩:=R6 h
    refine U2 (KR:=fun r=>a2E env 25 1 Tryz.f25.results.toList (a2K d9 at2 j6 r)) y5 (fun z29=>[(0,.ptr 0 0),(2,.ptr 1 0),(3,.ptr 2 0)]) (fun z29=>[(0,.row [.sl C8 d9,.i z29.1,.i j6]),(1,.row [.i 0,.str [],.i 0,.i 0,.str [],.i 0,.st 3 p9 ([]:List Typ),.st 4 p9 ([]:List Typ),.st 5 F6 ([]:List Nod),.i 0]),(2,.row [.i 5,.str r6,.i 0,.i 0,.str [],.i 0,.sl p9 ([]:List Typ),.st 6 p9 ([]:List Typ),.st 7 F6 z29.2,.i at4]),(3,.tip 0 0),(4,.tip 0 0),(5,.tip 0 0),(6,.tip 0 0),(7,.tip (tpe 10 (List.length z29.2)) (List.length z29.2))]) rfl ?_ (fun z29 hx=>?_) (fun r res hz hr hn=>?_)
    ·replace h:=g6
     clear g6
     refine F9 ?_
     refine Y1 rfl ?_
     revert y5
     refine a0x (fun m (x:Int × List Nod)=>Q8 n j6 d9 m x.1 x.2) (fun x=>[(0,.ptr 0 0),(2,.ptr 1 0),(3,.ptr 2 0)]) (fun x=>[(0,.row [.sl C8 d9,.i x.1,.i j6]),(1,.row [.i 0,.str [],.i 0,.i 0,.str [],.i 0,.st 3 p9 ([]:List Typ),.st 4 p9 ([]:List Typ),.st 5 F6 ([]:List Nod),.i 0]),(2,.row [.i 5,.str r6,.i 0,.i 0,.str [],.i 0,.sl p9 ([]:List Typ),.st 6 p9 ([]:List Typ),.st 7 F6 x.2,.i at4]),(3,.tip 0 0),(4,.tip 0 0),(5,.tip 0 0),(6,.tip 0 0),(7,.tip (tpe 10 (List.length x.2)) (List.length x.2))]) _ (fun _=>rfl) (fun m5 x y ih h=>?_) n (at7,([]:List Nod))
     obtain ⟨a3m,b25⟩:=x
     rw [Q8] at h
     refine H8 (eSG (oA 1 rfl ?_))
     obtain ⟨r8,g7,h⟩:=o9 h
     refine oV (G6 g7) ?_
     refine D5 ?_
     refine eI rfl h (fun h=>?_) fun h=>?_
     ·refine E8 ?_
      refine F9 ?_
      refine eSG (oA 1 rfl ?_)
      obtain ⟨at9,g9,h⟩:=o9 h
      refine oV (E5 g9) ?_
      refine oB 2 rfl (eSG (oB 8 rfl (eSG (oA 1 rfl ?_))))
      rcases o8 h with ⟨r10,g10,h⟩ | ⟨at19,g16,h⟩
      ·refine oV (F7 g10) ?_
       refine oB 2 rfl (eSG (oA 1 rfl ?_))
       rcases o8 h with ⟨⟨r11,at12⟩,g11,h⟩ | ⟨⟨at17,at18⟩,g15,h⟩
       ·refine oV (a2e g11) ?_
        refine oB 2 rfl (eSG (oA 1 rfl ?_))
        rcases o8 h with ⟨at13,g12,h⟩ | ⟨⟨at15,at16⟩,g14,h⟩
        ·refine oV (o7 g12) ?_
         refine D5 (u6 (oA 4 rfl ?_))
         obtain ⟨l14,g13,h⟩:=o9 h
         refine oP U0 g13 ?_
         refine oB 2 rfl ?_
         exact ⟨_,_,rfl,ih (_,_) _ h⟩
        ·refine oW (o7 g14) ?_
         cases h
         exact ⟨_,rfl,_,_,rfl,rfl⟩
       ·refine oW (a2e g15) ?_
        cases h
        exact ⟨_,rfl,_,_,rfl,rfl⟩
      ·refine oW (F7 g16) ?_
       cases h
       exact ⟨_,rfl,_,_,rfl,rfl⟩
     ·refine V7 ?_
      cases h
      exact ⟨_,rfl,rfl⟩
    ·subst hx
     obtain ⟨a2P,l512⟩:=z29
     obtain ⟨y17,g18,h⟩:=R6 h
     refine U2 (KR:=fun r=>a2E env 25 1 Tryz.f25.results.toList (a2K d9 at2 j6 r)) y17 (fun z28=>[(0,.ptr 0 0),(2,.ptr 1 0),(3,.ptr 2 0)]) (fun z28=>[(0,.row [.sl C8 d9,.i z28.1,.i j6]),(1,.row [.i 0,.str [],.i 0,.i 0,.str [],.i 0,.st 3 p9 ([]:List Typ),.st 4 p9 ([]:List Typ),.st 5 F6 ([]:List Nod),.i 0]),(2,.row [.i 5,.str r6,.i 0,.i 0,.str [],.i 0,.sl p9 ([]:List Typ),.st 6 p9 ([]:List Typ),.st 7 F6 z28.2,.i at4]),(3,.tip 0 0),(4,.tip 0 0),(5,.tip 0 0),(6,.tip 0 0),(7,.tip (tpe 10 (List.length z28.2)) (List.length z28.2))]) rfl ?_ (fun z28 hx=>?_) (fun r res hz hr hn=>?_)
     ·replace h:=g18
      clear g18
      refine F9 ?_
      refine Y1 rfl ?_
      revert y17
      refine a0x (fun m (x:Int × List Nod)=>P8 n j6 d9 m x.1 x.2) (fun x=>[(0,.ptr 0 0),(2,.ptr 1 0),(3,.ptr 2 0)]) (fun x=>[(0,.row [.sl C8 d9,.i x.1,.i j6]),(1,.row [.i 0,.str [],.i 0,.i 0,.str [],.i 0,.st 3 p9 ([]:List Typ),.st 4 p9 ([]:List Typ),.st 5 F6 ([]:List Nod),.i 0]),(2,.row [.i 5,.str r6,.i 0,.i 0,.str [],.i 0,.sl p9 ([]:List Typ),.st 6 p9 ([]:List Typ),.st 7 F6 x.2,.i at4]),(3,.tip 0 0),(4,.tip 0 0),(5,.tip 0 0),(6,.tip 0 0),(7,.tip (tpe 10 (List.length x.2)) (List.length x.2))]) _ (fun _=>rfl) (fun m12 x y ih h=>?_) n (a2P,l512)
      obtain ⟨a92,b3S⟩:=x
      rw [P8] at h
      refine H8 (eSG (oA 1 rfl ?_))
      obtain ⟨r20,g19,h⟩:=o9 h
      refine oV (G6 g19) ?_
      refine D5 ?_
      refine eI rfl h (fun h=>?_) fun h=>?_
      ·refine E8 ?_
       refine F9 ?_
       refine eSG (oA 1 rfl ?_)
       rcases o8 h with ⟨⟨s21,t22,l23,at24,at25⟩,g21,h⟩ | ⟨⟨at30,at31⟩,g25,h⟩
       ·obtain ⟨t22_0,t22_1,t22_2,t22_3⟩:=t22
        refine oV (a1I g21) ?_
        refine oB 2 rfl (eSG (oA 1 rfl ?_))
        rcases o8 h with ⟨at26,g22,h⟩ | ⟨⟨at28,at29⟩,g24,h⟩
        ·refine oV (o7 g22) ?_
         refine D5 (u6 (oA 4 rfl ?_))
         obtain ⟨l27,g23,h⟩:=o9 h
         refine oP U0 g23 ?_
         refine oB 2 rfl ?_
         exact ⟨_,_,rfl,ih (_,_) _ h⟩
        ·refine oW (o7 g24) ?_
         cases h
         exact ⟨_,rfl,_,_,rfl,rfl⟩
       ·refine oW (a1I g25) ?_
        cases h
        exact ⟨_,rfl,_,_,rfl,rfl⟩
      ·refine V7 ?_
       cases h
       exact ⟨_,rfl,rfl⟩
     ·subst hx
      obtain ⟨b1k,l534⟩:=z28
      refine eSG (oA 1 rfl ?_)
      rcases o8 h with ⟨at32,g26,h⟩ | ⟨⟨at33,at34⟩,g27,h⟩
      ·refine oV (o7 g26) ?_
       refine D5 (eSG (oB 2 rfl ?_))
       cases h
       exact D7 ⟨_,_,_,rfl,rfl,rfl⟩
      ·refine oW (o7 g27) ?_
       cases h
       exact ⟨_,_,rfl,rfl⟩
     ·subst hz
      rcases res with ⟨_ | _ | _ | _,_,_⟩ <;> first | exact absurd rfl hn | exact hr.elim | (cases h; exact hr)
    ·subst hz
     rcases res with ⟨_ | _ | _ | _,_,_⟩ <;> first | exact absurd rfl hn | exact hr.elim | (cases h; exact hr)
   ·refine oW (o7 g30) ?_
    cases h
    exact ⟨_,_,rfl,rfl⟩
  ·refine oW (F7 g31) ?_
   cases h
   exact ⟨_,_,rfl,rfl⟩
 ·refine oW (I6 g32) ?_
  cases h
  exact ⟨_,_,rfl,rfl⟩
theorem a05 {d9:List Tok} {at2:Int} {j6:Int} {r:Rs Int Int} (h:Y6 d9 at2 j6 = some r) :
  E env (.call 121 [.ptr 0 0]) (hP C8 d9 at2 j6) = some (a8x d9 at2 j6 r):=by
 unfold Y6 at h
 refine K6 rfl Tryz.func121 rfl rfl ?_
 refine eSG (oB 1 rfl (eSG (oA 1 rfl ?_)))
 rcases o8 h with ⟨r4,g1,h⟩ | ⟨at6,g3,h⟩
 ·refine oV (L8 g1) ?_
  refine oA 1 rfl ?_
  obtain ⟨n5,g2,h⟩:=o9 h
  refine a0t rfl rfl rfl rfl rfl (atoi_ok g2) rfl ?_
  refine oB 5 rfl (eSG (oB 2 rfl ?_))
  cases h
  exact D7 ⟨_,_,_,rfl,rfl,rfl⟩
 ·refine oW (L8 g3) ?_
  cases h
  exact ⟨_,_,rfl,rfl⟩
theorem a5S {n:Nat} {d9:List Tok} {at2:Int} {j6:Int} {r:Rs (Nod × Int) (Int × Int)} (h:a0q n d9 at2 j6 = some r) :
  E env (.call 137 [.ptr 0 0]) (hP C8 d9 at2 j6) = some (a5E d9 at2 j6 r):=by
 unfold a0q at h
 refine K6 rfl Tryz.func137 rfl rfl ?_
 refine eSG (oB 1 rfl (eSG (oA 1 rfl ?_)))
 obtain ⟨at4,g1,h⟩:=o9 h
 refine oV (E5 g1) ?_
 refine oB 2 rfl (eSG (oA 1 rfl ?_))
 rcases o8 h with ⟨r5,g2,h⟩ | ⟨at10,g10,h⟩
 ·refine oV (G8 g2) ?_
  refine oB 2 rfl ?_
  obtain ⟨y3,g4,h⟩:=R6 h
  refine U2 (KR:=fun r=>a2E env 137 1 Tryz.f137.results.toList (a5E d9 at2 j6 r)) y3 (fun z9=>[(2,.ptr 1 0),(3,.ptr 2 0)]) (fun z9=>[(0,.row [.sl C8 d9,.i z9.1,.i j6]),(1,.row [.i 0,.str [],.i 0,.i 0,.str [],.i 0,.st 3 p9 ([]:List Typ),.st 4 p9 ([]:List Typ),.st 5 F6 ([]:List Nod),.i 0]),(2,.row [.i z9.2.1,.str z9.2.2.1,.i 0,.i 0,.str [],.i 0,.sl p9 ([]:List Typ),.st 6 p9 ([]:List Typ),.st 7 F6 z9.2.2.2,.i at4]),(3,.tip 0 0),(4,.tip 0 0),(5,.tip 0 0),(6,.tip 0 0),(7,.tip (tpe 10 (List.length z9.2.2.2)) (List.length z9.2.2.2))]) rfl ?_ (fun z9 hx=>?_) (fun r res hz hr hn=>?_)
  ·replace h:=g4
   clear g4
   refine F9 ?_
   refine Y1 rfl ?_
   revert y3
   refine a0x (fun m (x:Int × Int × Str × List Nod)=>W9 n at4 j6 d9 m x.1 x.2.1 x.2.2.1 x.2.2.2) (fun x=>[(0,.ptr 0 0),(2,.ptr 1 0),(3,.ptr 2 0)]) (fun x=>[(0,.row [.sl C8 d9,.i x.1,.i j6]),(1,.row [.i 0,.str [],.i 0,.i 0,.str [],.i 0,.st 3 p9 ([]:List Typ),.st 4 p9 ([]:List Typ),.st 5 F6 ([]:List Nod),.i 0]),(2,.row [.i x.2.1,.str x.2.2.1,.i 0,.i 0,.str [],.i 0,.sl p9 ([]:List Typ),.st 6 p9 ([]:List Typ),.st 7 F6 x.2.2.2,.i at4]),(3,.tip 0 0),(4,.tip 0 0),(5,.tip 0 0),(6,.tip 0 0),(7,.tip (tpe 10 (List.length x.2.2.2)) (List.length x.2.2.2))]) _ (fun _=>rfl) (fun m3 x y ih h=>?_) n ((w64 (at2 + 1)),54,r5,([]:List Nod))
   obtain ⟨a3m,op504,s505,a9C⟩:=x
   rw [W9] at h
   refine H8 (eSG (oA 1 rfl ?_))
   obtain ⟨⟨r6,at7⟩,g5,h⟩:=o9 h
   refine oV (D9 g5) ?_
   refine D5 ?_
   refine eI rfl h (fun h=>?_) fun h=>?_
   ·refine E8 ?_
    refine F9 ?_
    refine eSG (oA 4 rfl ?_)
    refine oD ?_
    refine oB 2 rfl (eSG (oA 1 rfl ?_))
    rcases o8 h with ⟨r8,g7,h⟩ | ⟨at9,g8,h⟩
    ·refine oV (G8 g7) ?_
     refine oB 2 rfl (u6 (oB 2 rfl ?_))
     exact ⟨_,_,rfl,ih (_,_,_,_) _ h⟩
    ·refine oW (G8 g8) ?_
     cases h
     exact ⟨_,rfl,_,_,rfl,rfl⟩
   ·refine V7 ?_
    cases h
    exact ⟨_,rfl,rfl⟩
  ·subst hx
   obtain ⟨at520,op521,s522,l523⟩:=z9
   refine eSG (oB 2 rfl ?_)
   cases h
   exact D7 ⟨_,_,_,rfl,rfl,rfl⟩
  ·subst hz
   rcases res with ⟨_ | _ | _ | _,_,_⟩ <;> first | exact absurd rfl hn | exact hr.elim | (cases h; exact hr)
 ·refine oW (G8 g10) ?_
  cases h
  exact ⟨_,_,rfl,rfl⟩
theorem b30 {r:Unit} (h:a5C = some r) :
  E env (.call 114 []) [] = some (b3e r):=by
 unfold a5C at h
 refine K6 rfl Tryz.func114 rfl rfl ?_
 refine eSG (oB 1 rfl (eSG (oA 1 rfl ?_)))
 refine oD ?_
 refine oA 1 rfl ?_
 refine oD ?_
 refine oA 1 rfl ?_
 refine oD ?_
 refine oA 1 rfl ?_
 refine oD ?_
 refine oA 1 rfl ?_
 refine oD ?_
 refine oB 2 rfl ?_
 cases h
 exact D7 ⟨_,_,_,rfl,rfl,rfl⟩
theorem a6A {n:Nat} {s1:List Str} {v2:Str} {r:Int} (h:a1K n s1 v2 = some r) :
  E env (.call 67 [.sl clS s1,.str v2]) [] = some (a3z s1 v2 r):=by
 unfold a1K at h
 refine K6 rfl Tryz.func67 rfl rfl ?_
 refine eSG (oB 1 rfl ?_)
 obtain ⟨y1,g2,h⟩:=R6 h
 refine U2 (KR:=fun r=>a2E env 67 0 Tryz.f67.results.toList (a3z s1 v2 r)) y1 (fun z6=>[]) (fun z6=>[]) rfl ?_ (fun z6 hx=>?_) (fun r res hz hr hn=>?_)
 ·replace h:=g2
  clear g2
  refine eSG (oB 3 rfl ?_)
  refine F9 ?_
  refine Y1 rfl ?_
  revert y1
  refine a0x (fun m (x:Int)=>X6 n s1 v2 m x) (fun x=>[(0,.sl clS s1),(1,.str v2),(7,.i (List.length s1:Int)),(8,.i x)]) (fun x=>[]) _ (fun _=>rfl) (fun m2 x y ih h=>?_) n 0
  obtain ⟨x501,rfl⟩:∃ q,q = x:=⟨_,rfl⟩
  rw [X6] at h
  refine eSG (oB 1 rfl (H8 ?_))
  refine eI rfl h (fun h=>?_) fun h=>?_
  ·refine E8 (H8 ?_)
   refine F9 ?_
   refine eSG (oB 2 rfl (eSG (oA 3 rfl ?_)))
   obtain ⟨x3,g4,h⟩:=o9 h
   refine a3E encS g4 rfl rfl rfl rfl rfl rfl rfl rfl ?_
   refine oB 2 rfl ?_
   refine eI rfl h (fun h=>?_) fun h=>?_
   ·refine eSG (oB 2 rfl ?_)
    cases h
    exact D7 ⟨_,rfl,_,_,_,rfl,rfl,rfl⟩
   ·refine E8 (u6 (oB 2 rfl ?_))
    exact ⟨_,_,rfl,ih _ _ h⟩
  ·refine V7 ?_
   cases h
   exact ⟨_,rfl,rfl⟩
 ·subst hx
  refine eSG (oB 1 rfl ?_)
  cases h
  exact D7 ⟨_,_,_,rfl,rfl,rfl⟩
 ·subst hz
  rcases res with ⟨_ | _ | _ | _,_,_⟩ <;> first | exact absurd rfl hn | exact hr.elim | (cases h; exact hr)
theorem a3e {n:Nat} {s1:List Str} {v2:Str} {r:Bool} (h:R9 n s1 v2 = some r) :
  E env (.call 35 [.sl clS s1,.str v2]) [] = some (a5H s1 v2 r):=by
 unfold R9 at h
 refine K6 rfl Tryz.func35 rfl rfl ?_
 refine eSG (oB 1 rfl (eSG (oA 2 rfl ?_)))
 obtain ⟨r3,g1,h⟩:=o9 h
 refine a0t rfl rfl rfl rfl rfl (a6A g1) rfl ?_
 refine oB 2 rfl ?_
 cases h
 exact D7 ⟨_,_,_,rfl,rfl,rfl⟩
end Go.Proofs.YtlfomdllnidliaaGreatDoor
namespace Go.Proofs.YtlfomdllnidliaaGreatDoor
open Go Go.Vm
structure I7.Ok (Φ:I7):Prop where
 J8:∀ {d9:List Tok} {at2:Int} {j6:Int} {r:Rs (Nod × Int) (Int × Int)},Φ.J8 d9 at2 j6 = some r -> E env (.call 112 [.ptr 0 0]) (hP C8 d9 at2 j6) = some (a1m d9 at2 j6 r)
theorem a7J (n:Nat) {Φ:I7} (hΦ:Φ.Ok) {d9:List Tok} {at2:Int} {j6:Int} {r:Rs (Nod × Int) (Int × Int)} (h:a0j n Φ d9 at2 j6 = some r) :
  E env (.call 112 [.ptr 0 0]) (hP C8 d9 at2 j6) = some (a1m d9 at2 j6 r):=by
 unfold a0j at h
 refine K6 rfl Tryz.func112 rfl rfl ?_
 refine eSG (oB 1 rfl (eSG (oA 1 rfl ?_)))
 obtain ⟨at4,g1,h⟩:=o9 h
 refine oV (E5 g1) ?_
 refine oB 2 rfl ?_
 obtain ⟨y2,g3,h⟩:=R6 h
 refine U2 (KR:=fun r=>a2E env 112 1 Tryz.f112.results.toList (a1m d9 at2 j6 r)) y2 (fun z45=>[(2,.ptr 1 0),(3,.ptr 2 0)]) (fun z45=>[(0,.row [.sl C8 d9,.i z45.1,.i j6]),(1,.row [.i 0,.str [],.i 0,.i 0,.str [],.i 0,.st 3 p9 ([]:List Typ),.st 4 p9 ([]:List Typ),.st 5 F6 ([]:List Nod),.i 0]),(2,.row [.i z45.2.1,.str z45.2.2.1,.i z45.2.2.2.1,.i 0,.str [],.i 0,.sl p9 ([]:List Typ),.st 6 p9 ([]:List Typ),.st 7 F6 z45.2.2.2.2,.i at4]),(3,.tip 0 0),(4,.tip 0 0),(5,.tip 0 0),(6,.tip 0 0),(7,.tip (tpe 10 (List.length z45.2.2.2.2)) (List.length z45.2.2.2.2))]) rfl ?_ (fun z45 hx=>?_) (fun r res hz hr hn=>?_)
 ·replace h:=g3
  clear g3
  refine F9 ?_
  refine eSG (oA 1 rfl ?_)
  obtain ⟨r5,g4,h⟩:=o9 h
  refine oV (G6 g4) ?_
  refine oB 1 rfl ?_
  refine eI rfl h (fun h=>?_) fun h=>?_
  ·refine eSG (oB 8 rfl (u6 (oB 2 rfl ?_)))
   cases h
   exact ⟨_,rfl,rfl⟩
  ·refine eSG (oA 1 rfl ?_)
   obtain ⟨r6,g6,h⟩:=o9 h
   refine oV (G6 g6) ?_
   refine oB 1 rfl ?_
   refine eI rfl h (fun h=>?_) fun h=>?_
   ·refine u6 (oA 1 rfl ?_)
    rcases o8 h with ⟨r7,g8,h⟩ | ⟨at8,g9,h⟩
    ·refine oV (G8 g8) ?_
     refine oB 4 rfl ?_
     cases h
     exact ⟨_,rfl,rfl⟩
    ·refine oW (G8 g9) ?_
     cases h
     exact ⟨_,rfl,_,_,rfl,rfl⟩
   ·refine eSG (oA 1 rfl ?_)
    obtain ⟨r9,g10,h⟩:=o9 h
    refine oV (G6 g10) ?_
    refine oB 1 rfl ?_
    refine eI rfl h (fun h=>?_) fun h=>?_
    ·refine u6 (oA 1 rfl ?_)
     rcases o8 h with ⟨r10,g12,h⟩ | ⟨at11,g13,h⟩
     ·refine oV (a05 g12) ?_
      refine oB 4 rfl ?_
      cases h
      exact ⟨_,rfl,rfl⟩
     ·refine oW (a05 g13) ?_
      cases h
      exact ⟨_,rfl,_,_,rfl,rfl⟩
    ·refine eSG (oA 1 rfl ?_)
     obtain ⟨⟨r12,at13⟩,g14,h⟩:=o9 h
     refine oV (D9 g14) ?_
     refine oB 1 rfl ?_
     refine eI rfl h (fun h=>?_) fun h=>?_
     ·refine u6 (oA 1 rfl ?_)
      rcases o8 h with ⟨r14,g16,h⟩ | ⟨at15,g17,h⟩
      ·refine oV (a05 g16) ?_
       refine oB 5 rfl ?_
       cases h
       exact ⟨_,rfl,rfl⟩
      ·refine oW (a05 g17) ?_
       cases h
       exact ⟨_,rfl,_,_,rfl,rfl⟩
     ·refine eSG (oA 1 rfl ?_)
      obtain ⟨r16,g18,h⟩:=o9 h
      refine oV (G6 g18) ?_
      refine oB 1 rfl ?_
      refine eI rfl h (fun h=>?_) fun h=>?_
      ·refine u6 (oA 1 rfl ?_)
       rcases o8 h with ⟨r17,g20,h⟩ | ⟨at18,g21,h⟩
       ·refine oV (L8 g20) ?_
        refine oB 5 rfl ?_
        cases h
        exact ⟨_,rfl,rfl⟩
       ·refine oW (L8 g21) ?_
        cases h
        exact ⟨_,rfl,_,_,rfl,rfl⟩
      ·refine eSG (oA 1 rfl ?_)
       obtain ⟨⟨r19,at20⟩,g22,h⟩:=o9 h
       refine oV (J9 g22) ?_
       refine oB 1 rfl ?_
       refine eI rfl h (fun h=>?_) fun h=>?_
       ·refine u6 (oB 4 rfl ?_)
        cases h
        exact ⟨_,rfl,rfl⟩
       ·refine eSG (oA 1 rfl ?_)
        obtain ⟨⟨r21,at22⟩,g24,h⟩:=o9 h
        refine oV (J9 g24) ?_
        refine oB 1 rfl ?_
        refine eI rfl h (fun h=>?_) fun h=>?_
        ·refine u6 (oB 2 rfl ?_)
         cases h
         exact ⟨_,rfl,rfl⟩
        ·refine eSG (oA 1 rfl ?_)
         rcases o8 h with ⟨at23,g26,h⟩ | ⟨⟨at43,at44⟩,g44,h⟩
         ·refine oV (o7 g26) ?_
          refine D5 (eSG (oA 1 rfl ?_))
          rcases o8 h with ⟨r24,g27,h⟩ | ⟨at42,g43,h⟩
          ·refine oV (G8 g27) ?_
           refine oB 4 rfl (eSG (oA 1 rfl ?_))
           obtain ⟨⟨r25,at26⟩,g28,h⟩:=o9 h
           refine oV (D9 g28) ?_
           refine D5 ?_
           refine eI rfl h (fun h=>?_) fun h=>?_
           ·refine H8 ?_
            refine Q0 [256] rfl ?_
            refine oC rfl rfl (oC rfl rfl (oC rfl rfl (K3 rfl ?_)))
            rcases o8 h with ⟨⟨r27,at28⟩,g30,h⟩ | ⟨⟨at40,at41⟩,g42,h⟩
            ·obtain ⟨r27_0,r27_1,r27_2,⟨r27_3,r27_4,r27_5,r27_6⟩,r27_7,r27_8,r27_9⟩:=r27
             refine oV (hΦ.J8 g30) ?_
             refine D5 (oC rfl rfl (K3 rfl ?_))
             obtain ⟨l29,g31,h⟩:=o9 h
             refine oP U0 g31 ?_
             refine D5 (oC rfl rfl (oC rfl rfl ?_))
             refine a0X ?_
             refine ⟨rfl,?_⟩
             obtain ⟨y32,g33,h⟩:=a3o h
             refine U2 (KR:=fun r=>a2E env 112 1 Tryz.f112.results.toList (a1m d9 at2 j6 r)) y32 (fun z41=>[(0,.ptr 0 0),(2,.ptr 1 0),(3,.ptr 2 0)]) (fun z41=>[(0,.row [.sl C8 d9,.i z41.1,.i j6]),(1,.row [.i 0,.str [],.i 0,.i 0,.str [],.i 0,.st 3 p9 ([]:List Typ),.st 4 p9 ([]:List Typ),.st 5 F6 ([]:List Nod),.i 0]),(2,.row [.i 45,.str r24,.i 0,.i 0,.str [],.i 0,.sl p9 ([]:List Typ),.st 6 p9 ([]:List Typ),.st 7 F6 z41.2,.i at4]),(3,.tip 0 0),(4,.tip 0 0),(5,.tip 0 0),(6,.tip 0 0),(7,.tip (tpe 10 (List.length z41.2)) (List.length z41.2))]) rfl ?_ (fun z41 hx=>?_) (fun r res hz hr hn=>?_)
             ·replace h:=g33
              clear g33
              refine F9 ?_
              refine Y1 rfl ?_
              revert y32
              refine a0x (fun m (x:Int × List Nod)=>T9 n Φ j6 d9 m x.1 x.2) (fun x=>[(0,.ptr 0 0),(2,.ptr 1 0),(3,.ptr 2 0)]) (fun x=>[(0,.row [.sl C8 d9,.i x.1,.i j6]),(1,.row [.i 0,.str [],.i 0,.i 0,.str [],.i 0,.st 3 p9 ([]:List Typ),.st 4 p9 ([]:List Typ),.st 5 F6 ([]:List Nod),.i 0]),(2,.row [.i 45,.str r24,.i 0,.i 0,.str [],.i 0,.sl p9 ([]:List Typ),.st 6 p9 ([]:List Typ),.st 7 F6 x.2,.i at4]),(3,.tip 0 0),(4,.tip 0 0),(5,.tip 0 0),(6,.tip 0 0),(7,.tip (tpe 10 (List.length x.2)) (List.length x.2))]) _ (fun _=>rfl) (fun m6 x y ih h=>?_) n (at28,l29)
              obtain ⟨b0o,b26⟩:=x
              rw [T9] at h
              refine H8 (eSG (oA 1 rfl ?_))
              obtain ⟨⟨r30,at31⟩,g34,h⟩:=o9 h
              refine oV (D9 g34) ?_
              refine D5 ?_
              refine eI rfl h (fun h=>?_) fun h=>?_
              ·refine E8 ?_
               refine F9 ?_
               refine Q0 [2] rfl ?_
               refine oC rfl rfl (oC rfl rfl (oC rfl rfl (K3 rfl ?_)))
               rcases o8 h with ⟨⟨r32,at33⟩,g36,h⟩ | ⟨⟨at35,at36⟩,g38,h⟩
               ·obtain ⟨r32_0,r32_1,r32_2,⟨r32_3,r32_4,r32_5,r32_6⟩,r32_7,r32_8,r32_9⟩:=r32
                refine oV (hΦ.J8 g36) ?_
                refine D5 (oC rfl rfl (K3 rfl ?_))
                obtain ⟨l34,g37,h⟩:=o9 h
                refine oP U0 g37 ?_
                refine D5 (oC rfl rfl (oC rfl rfl ?_))
                refine a0X ?_
                refine ⟨rfl,?_⟩
                exact ⟨_,_,rfl,ih (_,_) _ h⟩
               ·refine oW (hΦ.J8 g38) ?_
                refine ⟨rfl,rfl,_,_,rfl,?_⟩
                cases h
                exact ⟨_,rfl,_,_,rfl,rfl⟩
              ·refine V7 ?_
               cases h
               exact ⟨_,rfl,rfl⟩
             ·subst hx
              obtain ⟨a94,l524⟩:=z41
              refine u6 (oA 1 rfl ?_)
              rcases o8 h with ⟨at37,g39,h⟩ | ⟨⟨at38,at39⟩,g40,h⟩
              ·refine oV (o7 g39) ?_
               refine D5 ?_
               cases h
               exact ⟨_,rfl,rfl⟩
              ·refine oW (o7 g40) ?_
               cases h
               exact ⟨_,rfl,_,_,rfl,rfl⟩
             ·subst hz
              rcases res with ⟨_ | _ | _ | _,_,_⟩ <;> first | exact absurd rfl hn | exact hr.elim | (cases h; exact ⟨_,rfl,hr⟩)
            ·refine oW (hΦ.J8 g42) ?_
             refine ⟨rfl,rfl,_,_,rfl,?_⟩
             cases h
             exact ⟨_,rfl,_,_,rfl,rfl⟩
           ·refine E8 ?_
            cases h
            exact ⟨_,rfl,rfl⟩
          ·refine oW (G8 g43) ?_
           cases h
           exact ⟨_,rfl,_,_,rfl,rfl⟩
         ·refine oW (o7 g44) ?_
          cases h
          exact ⟨_,rfl,_,_,rfl,rfl⟩
 ·subst hx
  obtain ⟨a6k,op513,s514,n515,l516⟩:=z45
  refine eSG (oB 2 rfl ?_)
  cases h
  exact D7 ⟨_,_,_,rfl,rfl,rfl⟩
 ·subst hz
  rcases res with ⟨_ | _ | _ | _,_,_⟩ <;> first | exact absurd rfl hn | exact hr.elim | (cases h; exact hr)
theorem I7.ok:∀ n,(I7.fs n).Ok
 | 0=>⟨(fun h=>by cases h)⟩
 | n + 1=>⟨(fun h=>a7J n (I7.ok n) h)⟩
theorem a5l {n:Nat} {d9:List Tok} {at2:Int} {j6:Int} {r:Rs (Nod × Int) (Int × Int)} (h:J8 n d9 at2 j6 = some r) :
  E env (.call 112 [.ptr 0 0]) (hP C8 d9 at2 j6) = some (a1m d9 at2 j6 r):=(I7.ok n).J8 h
theorem b5p {n:Nat} {e1:Nod} {r:Bool} (h:a5m n e1 = some r) :
  E env (.call 105 [.agg (c0 e1.op e1.s e1.n e1.t.kind e1.t.name e1.t.n (.sl p9 e1.t.args) (.sl p9 e1.ts) (.sl F6 e1.l) e1.at_)]) [] = some (b31 e1 r):=by
 unfold a5m at h
 obtain ⟨e1_0,e1_1,e1_2,⟨e1_3,e1_4,e1_5,e1_6⟩,e1_7,e1_8,e1_9⟩:=e1
 refine K6 rfl Tryz.func105 rfl rfl ?_
 refine eSG (oB 2 rfl ?_)
 obtain ⟨y1,g2,h⟩:=o9 h
 refine a15 [(1,.ptr 0 0)] [(0,.row (c0 y1.op y1.s y1.n y1.t.kind y1.t.name y1.t.n (.sl p9 y1.t.args) (.sl p9 y1.ts) (.sl F6 y1.l) y1.at_))] rfl ?_ ?_
 ·replace h:=g2
  clear g2
  refine F9 ?_
  refine Y1 rfl ?_
  revert y1
  refine a0x (fun m (x:Nod)=>a1A n m x) (fun x=>[(1,.ptr 0 0)]) (fun x=>[(0,.row (c0 x.op x.s x.n x.t.kind x.t.name x.t.n (.sl p9 x.t.args) (.sl p9 x.ts) (.sl F6 x.l) x.at_))]) _ (fun _=>rfl) (fun m1 x y ih h=>?_) n (Nod.mk e1_0 e1_1 e1_2 (Typ.mk e1_3 e1_4 e1_5 e1_6) e1_7 e1_8 e1_9)
  obtain ⟨n501,rfl⟩:∃ q,q = x:=⟨_,rfl⟩
  obtain ⟨n501_0,n501_1,n501_2,⟨n501_3,n501_4,n501_5,n501_6⟩,n501_7,n501_8,n501_9⟩:=n501
  replace h:a1A n (m1 + 1) (Nod.mk n501_0 n501_1 n501_2 (Typ.mk n501_3 n501_4 n501_5 n501_6) n501_7 n501_8 n501_9) = some y:=h
  rw [a1A] at h
  refine H8 (eSG (oB 3 rfl ?_))
  refine eI rfl h (fun h=>?_) fun h=>?_
  ·refine E8 ?_
   refine F9 ?_
   refine u6 (oA 2 rfl ?_)
   obtain ⟨x2,g4,h⟩:=o9 h
   obtain ⟨x2_0,x2_1,x2_2,⟨x2_3,x2_4,x2_5,x2_6⟩,x2_7,x2_8,x2_9⟩:=x2
   refine a3E U0 g4 rfl rfl rfl rfl rfl rfl rfl rfl ?_
   refine a7l (c:=(c0 x2_0 x2_1 x2_2 x2_3 x2_4 x2_5 (.sl p9 x2_6) (.sl p9 x2_7) (.sl F6 x2_8) x2_9)) rfl rfl rfl rfl rfl rfl rfl ?_
   refine oB 1 rfl ?_
   exact ⟨_,_,rfl,ih _ _ h⟩
  ·refine V7 ?_
   cases h
   exact rfl
 ·obtain ⟨n503,rfl⟩:∃ q,q = y1:=⟨_,rfl⟩
  obtain ⟨n503_0,n503_1,n503_2,⟨n503_3,n503_4,n503_5,n503_6⟩,n503_7,n503_8,n503_9⟩:=n503
  refine eSG (oB 4 rfl ?_)
  cases h
  exact D7 ⟨_,_,_,rfl,rfl,rfl⟩
end Go.Proofs.YtlfomdllnidliaaGreatDoor
namespace Go.Proofs.YtlfomdllnidliaaGreatDoor
open Go Go.Vm
structure j5.Ok (Φ:j5):Prop where
 F8:∀ {d9:List Tok} {at2:Int} {j6:Int} {r:Rs (Nod × Int) (o6 × Int)},Φ.F8 d9 at2 j6 = some r -> E env (.call 62 [.ptr 0 0]) (hP C8 d9 at2 j6) = some (a3F d9 at2 j6 r)
 N7:∀ {d9:List Tok} {at2:Int} {j6:Int} {r:Rs (List Nod × Int) (o6 × Int)},Φ.N7 d9 at2 j6 = some r -> E env (.call 90 [.ptr 0 0]) (hP C8 d9 at2 j6) = some (a2m d9 at2 j6 r)
 O0:∀ {d9:List Tok} {at2:Int} {j6:Int} {r:Rs (Nod × Int) (o6 × Int)},Φ.O0 d9 at2 j6 = some r -> E env (.call 95 [.ptr 0 0]) (hP C8 d9 at2 j6) = some (a2y d9 at2 j6 r)
 a0R:∀ {d9:List Tok} {at2:Int} {j6:Int} {r:Rs (Nod × Int) (o6 × Int)},Φ.a0R d9 at2 j6 = some r -> E env (.call 100 [.ptr 0 0]) (hP C8 d9 at2 j6) = some (a2i d9 at2 j6 r)
 A8:∀ {d9:List Tok} {at2:Int} {j6:Int} {r:Rs (Nod × Int) (o6 × Int)},Φ.A8 d9 at2 j6 = some r -> E env (.call 104 [.ptr 0 0]) (hP C8 d9 at2 j6) = some (a5R d9 at2 j6 r)
 I9:∀ {d9:List Tok} {at2:Int} {j6:Int} {r:Rs (Nod × Int) (o6 × Int)},Φ.I9 d9 at2 j6 = some r -> E env (.call 113 [.ptr 0 0]) (hP C8 d9 at2 j6) = some (a3G d9 at2 j6 r)
 a0k:∀ {d9:List Tok} {at2:Int} {j6:Int} {r:Rs (Nod × Int) (o6 × Int)},Φ.a0k d9 at2 j6 = some r -> E env (.call 122 [.ptr 0 0]) (hP C8 d9 at2 j6) = some (a1X d9 at2 j6 r)
 a0F:∀ {d9:List Tok} {at2:Int} {j6:Int} {r:Rs (Nod × Int) (o6 × Int)},Φ.a0F d9 at2 j6 = some r -> E env (.call 127 [.ptr 0 0]) (hP C8 d9 at2 j6) = some (a2B d9 at2 j6 r)
 K7:∀ {d9:List Tok} {at2:Int} {j6:Int} {r:Rs (List Nod × Int) (o6 × Int)},Φ.K7 d9 at2 j6 = some r -> E env (.call 128 [.ptr 0 0]) (hP C8 d9 at2 j6) = some (a2A d9 at2 j6 r)
 a0z:∀ {d9:List Tok} {at2:Int} {j6:Int} {r:Rs (Nod × Int) (o6 × Int)},Φ.a0z d9 at2 j6 = some r -> E env (.call 135 [.ptr 0 0]) (hP C8 d9 at2 j6) = some (a5j d9 at2 j6 r)
 a0g:∀ {d9:List Tok} {at2:Int} {j6:Int} {r:Rs (Nod × Int) (o6 × Int)},Φ.a0g d9 at2 j6 = some r -> E env (.call 136 [.ptr 0 0]) (hP C8 d9 at2 j6) = some (a4S d9 at2 j6 r)
 O4:∀ {a1p:Nod} {a0W:List J4} {P5:List Tok} {at4:Int} {a2t:Int} {r:Rs (Nod × Int) (o6 × Int)},Φ.O4 a1p a0W P5 at4 a2t = some r -> E env (.call 115 [.ptr 0 0,.agg (c0 a1p.op a1p.s a1p.n a1p.t.kind a1p.t.name a1p.t.n (.sl p9 a1p.t.args) (.sl p9 a1p.ts) (.sl F6 a1p.l) a1p.at_),.sl a1U a0W]) (hP C8 P5 at4 a2t) = some (a2g a1p a0W P5 at4 a2t r)
 M7:∀ {d9:List Tok} {at2:Int} {j6:Int} {r:Rs (Nod × Int) (o6 × Int)},Φ.M7 d9 at2 j6 = some r -> E env (.call 101 [.ptr 0 0]) (hP C8 d9 at2 j6) = some (a1o d9 at2 j6 r)
 a0S:∀ {d9:List Tok} {at2:Int} {j6:Int} {r:Rs (Nod × Int) (o6 × Int)},Φ.a0S d9 at2 j6 = some r -> E env (.call 102 [.ptr 0 0]) (hP C8 d9 at2 j6) = some (a2j d9 at2 j6 r)
 Y9:∀ {op1:Int} {D8:List Tok} {at3:Int} {J7:Int} {r:Rs (List Nod × Int × Int) (o6 × Int)},Φ.Y9 op1 D8 at3 J7 = some r -> E env (.call 103 [.ptr 0 0,.i op1]) (hP C8 D8 at3 J7) = some (a6s op1 D8 at3 J7 r)
theorem a88 (n:Nat) {Φ:j5} (hΦ:Φ.Ok) {d9:List Tok} {at2:Int} {j6:Int} {r:Rs (Nod × Int) (o6 × Int)} (h:a0J n Φ d9 at2 j6 = some r) :
  E env (.call 62 [.ptr 0 0]) (hP C8 d9 at2 j6) = some (a3F d9 at2 j6 r):=by
 unfold a0J at h
 refine K6 rfl Tryz.func62 rfl rfl ?_
 refine eSG (oB 1 rfl (eSG (oA 1 rfl ?_)))
 obtain ⟨at4,g1,h⟩:=o9 h
 refine oV (E5 g1) ?_
 refine oB 2 rfl (eSG (oA 1 rfl ?_))
 rcases o8 h with ⟨at5,g2,h⟩ | ⟨⟨at10,at11⟩,g5,h⟩
 ·refine oV (o7 g2) ?_
  refine D5 (eSG (oA 1 rfl ?_))
  rcases o8 h with ⟨⟨r6,at7⟩,g3,h⟩ | ⟨⟨e8,at9⟩,g4,h⟩
  ·refine oV (hΦ.N7 g3) ?_
   refine oB 2 rfl (eSG (oB 2 rfl ?_))
   cases h
   exact D7 ⟨_,_,_,rfl,rfl,rfl⟩
  ·refine oW (hΦ.N7 g4) ?_
   cases h
   exact ⟨_,_,rfl,rfl⟩
 ·refine oW (o7 g5) ?_
  cases h
  exact ⟨_,_,rfl,rfl⟩
theorem a6z (n:Nat) {Φ:j5} (hΦ:Φ.Ok) {d9:List Tok} {at2:Int} {j6:Int} {r:Rs (List Nod × Int) (o6 × Int)} (h:X7 n Φ d9 at2 j6 = some r) :
  E env (.call 90 [.ptr 0 0]) (hP C8 d9 at2 j6) = some (a2m d9 at2 j6 r):=by
 unfold X7 at h
 refine K6 rfl Tryz.func90 rfl rfl ?_
 refine eSG (oB 1 rfl (eSG (oB 1 rfl ?_)))
 obtain ⟨y1,g2,h⟩:=R6 h
 refine U2 (KR:=fun r=>a2E env 90 1 Tryz.f90.results.toList (a2m d9 at2 j6 r)) y1 (fun z8=>[(3,.st 1 F6 z8.1)]) (fun z8=>[(0,.row [.sl C8 d9,.i z8.2,.i j6]),(1,.tip (tpe 10 (List.length z8.1)) (List.length z8.1))]) rfl ?_ (fun z8 hx=>?_) (fun r res hz hr hn=>?_)
 ·replace h:=g2
  clear g2
  refine F9 ?_
  refine Y1 rfl ?_
  revert y1
  refine a0x (fun m (x:List Nod × Int)=>O7 n Φ j6 d9 m x.1 x.2) (fun x=>[(0,.ptr 0 0),(3,.st 1 F6 x.1)]) (fun x=>[(0,.row [.sl C8 d9,.i x.2,.i j6]),(1,.tip (tpe 10 (List.length x.1)) (List.length x.1))]) _ (fun _=>rfl) (fun m2 x y ih h=>?_) n (([]:List Nod),at2)
  obtain ⟨l503,a6j⟩:=x
  rw [O7] at h
  refine H8 (eSG (oA 1 rfl ?_))
  obtain ⟨⟨r4,at5⟩,g3,h⟩:=o9 h
  refine oV (D9 g3) ?_
  refine oB 1 rfl ?_
  refine eI rfl h (fun h=>?_) fun h=>?_
  ·refine E8 ?_
   refine F9 ?_
   refine u6 (oA 2 rfl ?_)
   rcases o8 h with ⟨⟨r6,at7⟩,g5,h⟩ | ⟨⟨e9,at10⟩,g7,h⟩
   ·obtain ⟨r6_0,r6_1,r6_2,⟨r6_3,r6_4,r6_5,r6_6⟩,r6_7,r6_8,r6_9⟩:=r6
    refine oV (hΦ.O0 g5) ?_
    refine oA 1 rfl ?_
    obtain ⟨l8,g6,h⟩:=o9 h
    refine oP U0 g6 ?_
    refine oB 1 rfl ?_
    exact ⟨_,_,rfl,ih (_,_) _ h⟩
   ·refine oW (hΦ.O0 g7) ?_
    cases h
    exact ⟨_,rfl,_,_,rfl,rfl⟩
  ·refine V7 ?_
   cases h
   exact ⟨_,rfl,rfl⟩
 ·subst hx
  obtain ⟨b4Y,a6k⟩:=z8
  refine eSG (oB 2 rfl ?_)
  cases h
  exact D7 ⟨_,_,_,rfl,rfl,rfl⟩
 ·subst hz
  rcases res with ⟨_ | _ | _ | _,_,_⟩ <;> first | exact absurd rfl hn | exact hr.elim | (cases h; exact hr)
theorem a6M (n:Nat) {Φ:j5} (hΦ:Φ.Ok) {d9:List Tok} {at2:Int} {j6:Int} {r:Rs (Nod × Int) (o6 × Int)} (h:I8 n Φ d9 at2 j6 = some r) :
  E env (.call 95 [.ptr 0 0]) (hP C8 d9 at2 j6) = some (a2y d9 at2 j6 r):=by
 unfold I8 at h
 refine K6 rfl Tryz.func95 rfl rfl ?_
 refine eSG (oB 1 rfl (eSG (oB 1 rfl ?_)))
 obtain ⟨y1,g2,h⟩:=o9 h
 refine a15 [(0,.ptr 0 0),(2,.ptr 1 0),(3,.str y1)] [(0,.row [.sl C8 d9,.i at2,.i j6]),(1,.row [.i 0,.str [],.i 0,.i 0,.str [],.i 0,.st 2 p9 ([]:List Typ),.st 3 p9 ([]:List Typ),.st 4 F6 ([]:List Nod),.i 0]),(2,.tip 0 0),(3,.tip 0 0),(4,.tip 0 0)] rfl ?_ ?_
 ·replace h:=g2
  clear g2
  refine eSG (oA 1 rfl ?_)
  obtain ⟨r4,g3,h⟩:=o9 h
  refine oV (G6 g3) ?_
  refine D5 ?_
  refine eI rfl h (fun h=>?_) fun h=>?_
  ·refine u6 (oA 8 rfl ?_)
   obtain ⟨x5,g5,h⟩:=o9 h
   refine a3E a8n g5 rfl rfl rfl rfl rfl rfl rfl rfl ?_
   refine oB 3 rfl ?_
   cases h
   exact rfl
  ·refine E8 ?_
   cases h
   exact rfl
 ·obtain ⟨a5b,rfl⟩:∃ q,q = y1:=⟨_,rfl⟩
  refine H8 (eSG (oB 1 rfl ?_))
  refine F9 ?_
  obtain ⟨y6,g7,h⟩:=o9 h
  refine a15 [(0,.ptr 0 0),(2,.ptr 1 0),(23,.str a5b),(24,.bool y6)] [(0,.row [.sl C8 d9,.i at2,.i j6]),(1,.row [.i 0,.str [],.i 0,.i 0,.str [],.i 0,.st 2 p9 ([]:List Typ),.st 3 p9 ([]:List Typ),.st 4 F6 ([]:List Nod),.i 0]),(2,.tip 0 0),(3,.tip 0 0),(4,.tip 0 0)] rfl ?_ ?_
  ·replace h:=g7
   clear g7
   refine eSG (oB 2 rfl ?_)
   refine eI rfl h (fun h=>?_) fun h=>?_
   ·refine E8 ?_
    cases h
    exact rfl
   ·refine u6 (oB 2 rfl ?_)
    cases h
    exact rfl
  ·obtain ⟨x509,rfl⟩:∃ q,q = y6:=⟨_,rfl⟩
   refine eI rfl h (fun h=>?_) fun h=>?_
   ·refine eSG (oA 1 rfl ?_)
    rcases o8 h with ⟨⟨r6,at7⟩,g10,h⟩ | ⟨⟨e8,at9⟩,g11,h⟩
    ·obtain ⟨r6_0,r6_1,r6_2,⟨r6_3,r6_4,r6_5,r6_6⟩,r6_7,r6_8,r6_9⟩:=r6
     refine oV (hΦ.a0R g10) ?_
     refine oB 1 rfl ?_
     cases h
     exact D7 ⟨_,_,_,rfl,rfl,rfl⟩
    ·refine oW (hΦ.a0R g11) ?_
     cases h
     exact ⟨_,_,rfl,rfl⟩
   ·refine eSG (oB 2 rfl ?_)
    refine eI rfl h (fun h=>?_) fun h=>?_
    ·refine eSG (oA 1 rfl ?_)
     rcases o8 h with ⟨⟨r10,at11⟩,g13,h⟩ | ⟨⟨e12,at13⟩,g14,h⟩
     ·obtain ⟨r10_0,r10_1,r10_2,⟨r10_3,r10_4,r10_5,r10_6⟩,r10_7,r10_8,r10_9⟩:=r10
      refine oV (hΦ.M7 g13) ?_
      refine oB 1 rfl ?_
      cases h
      exact D7 ⟨_,_,_,rfl,rfl,rfl⟩
     ·refine oW (hΦ.M7 g14) ?_
      cases h
      exact ⟨_,_,rfl,rfl⟩
    ·refine eSG (oB 2 rfl ?_)
     refine eI rfl h (fun h=>?_) fun h=>?_
     ·refine eSG (oA 1 rfl ?_)
      rcases o8 h with ⟨⟨r14,at15⟩,g16,h⟩ | ⟨⟨e16,at17⟩,g17,h⟩
      ·obtain ⟨r14_0,r14_1,r14_2,⟨r14_3,r14_4,r14_5,r14_6⟩,r14_7,r14_8,r14_9⟩:=r14
       refine oV (hΦ.a0S g16) ?_
       refine oB 1 rfl ?_
       cases h
       exact D7 ⟨_,_,_,rfl,rfl,rfl⟩
      ·refine oW (hΦ.a0S g17) ?_
       cases h
       exact ⟨_,_,rfl,rfl⟩
     ·refine eSG (oB 2 rfl ?_)
      refine eI rfl h (fun h=>?_) fun h=>?_
      ·refine eSG (oA 1 rfl ?_)
       rcases o8 h with ⟨⟨l18,at19,at20⟩,g19,h⟩ | ⟨⟨e21,at22⟩,g20,h⟩
       ·refine oV (hΦ.Y9 g19) ?_
        refine oB 1 rfl ?_
        cases h
        exact D7 ⟨_,_,_,rfl,rfl,rfl⟩
       ·refine oW (hΦ.Y9 g20) ?_
        cases h
        exact ⟨_,_,rfl,rfl⟩
      ·refine eSG (oB 2 rfl ?_)
       refine eI rfl h (fun h=>?_) fun h=>?_
       ·refine eSG (oA 1 rfl ?_)
        obtain ⟨at23,g22,h⟩:=o9 h
        refine oV (E5 g22) ?_
        refine oB 2 rfl (eSG (oB 8 rfl (eSG (oA 1 rfl ?_))))
        rcases o8 h with ⟨⟨r24,at25⟩,g23,h⟩ | ⟨⟨e31,at32⟩,g27,h⟩
        ·obtain ⟨r24_0,r24_1,r24_2,⟨r24_3,r24_4,r24_5,r24_6⟩,r24_7,r24_8,r24_9⟩:=r24
         refine oV (hΦ.A8 g23) ?_
         refine oB 3 rfl (H8 ?_)
         refine Q0 [320] rfl ?_
         refine oC rfl rfl (oC rfl rfl (oC rfl rfl (K3 rfl ?_)))
         rcases o8 h with ⟨⟨r26,at27⟩,g24,h⟩ | ⟨⟨e29,at30⟩,g26,h⟩
         ·obtain ⟨r26_0,r26_1,r26_2,⟨r26_3,r26_4,r26_5,r26_6⟩,r26_7,r26_8,r26_9⟩:=r26
          refine oV (hΦ.F8 g24) ?_
          refine D5 (oC rfl rfl (K3 rfl ?_))
          obtain ⟨l28,g25,h⟩:=o9 h
          refine a6L U0 g25 rfl rfl rfl rfl (.inr rfl) rfl rfl rfl rfl rfl rfl rfl rfl rfl rfl (a7f (a1Y rfl) rfl) rfl rfl rfl ?_
          refine D5 (oC rfl rfl (oC rfl rfl ?_))
          refine a0X ?_
          refine ⟨rfl,?_⟩
          refine eSG (oB 2 rfl ?_)
          cases h
          exact D7 ⟨_,_,_,rfl,rfl,rfl⟩
         ·refine oW (hΦ.F8 g26) ?_
          refine ⟨rfl,rfl,_,_,rfl,?_⟩
          cases h
          exact ⟨_,_,rfl,rfl⟩
        ·refine oW (hΦ.A8 g27) ?_
         cases h
         exact ⟨_,_,rfl,rfl⟩
       ·refine eSG (oB 2 rfl ?_)
        refine eI rfl h (fun h=>?_) fun h=>?_
        ·refine eSG (oA 1 rfl ?_)
         obtain ⟨at33,g29,h⟩:=o9 h
         refine oV (E5 g29) ?_
         refine oB 2 rfl (eSG (oB 8 rfl ?_))
         obtain ⟨y30,g31,h⟩:=R6 h
         refine U2 (KR:=fun r=>a2E env 95 1 Tryz.f95.results.toList (a2y d9 at2 j6 r)) y30 (fun z38=>[(2,.ptr 1 0),(5,.ptr 2 0)]) (fun z38=>[(0,.row [.sl C8 d9,.i z38.1,.i j6]),(1,.row [.i 0,.str [],.i 0,.i 0,.str [],.i 0,.st 3 p9 ([]:List Typ),.st 4 p9 ([]:List Typ),.st 5 F6 ([]:List Nod),.i 0]),(2,.row [.i 28,.str [],.i 0,.i 0,.str [],.i 0,.sl p9 ([]:List Typ),.st 6 p9 ([]:List Typ),.st 7 F6 z38.2,.i at33]),(3,.tip 0 0),(4,.tip 0 0),(5,.tip 0 0),(6,.tip 0 0),(7,.tip (tpe 10 (List.length z38.2)) (List.length z38.2))]) rfl ?_ (fun z38 hx=>?_) (fun r res hz hr hn=>?_)
         ·replace h:=g31
          clear g31
          refine eSG (oA 1 rfl ?_)
          obtain ⟨⟨r34,at35⟩,g32,h⟩:=o9 h
          refine oV (D9 g32) ?_
          refine oB 1 rfl ?_
          refine eI rfl h (fun h=>?_) fun h=>?_
          ·refine eSG (oA 1 rfl ?_)
           rcases o8 h with ⟨⟨r36,at37⟩,g34,h⟩ | ⟨⟨e41,at42⟩,g37,h⟩
           ·obtain ⟨r36_0,r36_1,r36_2,⟨r36_3,r36_4,r36_5,r36_6⟩,r36_7,r36_8,r36_9⟩:=r36
            refine oV (hΦ.A8 g34) ?_
            refine oB 3 rfl (u6 (oA 1 rfl ?_))
            rcases o8 h with ⟨at38,g35,h⟩ | ⟨⟨at39,at40⟩,g36,h⟩
            ·refine oV (o7 g35) ?_
             refine D5 ?_
             cases h
             exact ⟨_,rfl,rfl⟩
            ·refine oW (o7 g36) ?_
             cases h
             exact ⟨_,rfl,_,_,rfl,rfl⟩
           ·refine oW (hΦ.A8 g37) ?_
            cases h
            exact ⟨_,rfl,_,_,rfl,rfl⟩
          ·refine E8 ?_
           cases h
           exact ⟨_,rfl,rfl⟩
         ·subst hx
          obtain ⟨b3l,l535⟩:=z38
          refine eSG (oB 2 rfl ?_)
          cases h
          exact D7 ⟨_,_,_,rfl,rfl,rfl⟩
         ·subst hz
          rcases res with ⟨_ | _ | _ | _,_,_⟩ <;> first | exact absurd rfl hn | exact hr.elim | (cases h; exact hr)
        ·refine eSG (oB 2 rfl ?_)
         refine eI rfl h (fun h=>?_) fun h=>?_
         ·refine eSG (oA 1 rfl ?_)
          obtain ⟨at43,g40,h⟩:=o9 h
          refine oV (E5 g40) ?_
          refine oB 2 rfl (eSG (oB 8 rfl (eSG (oA 1 rfl ?_))))
          rcases o8 h with ⟨⟨r44,at45⟩,g41,h⟩ | ⟨⟨e49,at50⟩,g44,h⟩
          ·obtain ⟨r44_0,r44_1,r44_2,⟨r44_3,r44_4,r44_5,r44_6⟩,r44_7,r44_8,r44_9⟩:=r44
           refine oV (hΦ.A8 g41) ?_
           refine oB 3 rfl (eSG (oA 1 rfl ?_))
           rcases o8 h with ⟨at46,g42,h⟩ | ⟨⟨at47,at48⟩,g43,h⟩
           ·refine oV (o7 g42) ?_
            refine D5 (eSG (oB 2 rfl ?_))
            cases h
            exact D7 ⟨_,_,_,rfl,rfl,rfl⟩
           ·refine oW (o7 g43) ?_
            cases h
            exact ⟨_,_,rfl,rfl⟩
          ·refine oW (hΦ.A8 g44) ?_
           cases h
           exact ⟨_,_,rfl,rfl⟩
         ·refine eSG (oB 2 rfl ?_)
          refine eI rfl h (fun h=>?_) fun h=>?_
          ·refine eSG (oA 1 rfl ?_)
           rcases o8 h with ⟨⟨l51,at52,at53⟩,g46,h⟩ | ⟨⟨e64,at65⟩,g54,h⟩
           ·refine oV (hΦ.Y9 g46) ?_
            refine oB 2 rfl (eSG (oA 1 rfl ?_))
            rcases o8 h with ⟨at54,g47,h⟩ | ⟨⟨at62,at63⟩,g53,h⟩
            ·refine oV (I6 g47) ?_
             refine D5 (eSG (oA 1 rfl ?_))
             rcases o8 h with ⟨r55,g48,h⟩ | ⟨at61,g52,h⟩
             ·refine oV (G8 g48) ?_
              refine oB 2 rfl (H8 ?_)
              refine Q0 [512] rfl ?_
              refine oC rfl rfl (oC rfl rfl (oC rfl rfl (K3 rfl ?_)))
              rcases o8 h with ⟨⟨r56,at57⟩,g49,h⟩ | ⟨⟨e59,at60⟩,g51,h⟩
              ·obtain ⟨r56_0,r56_1,r56_2,⟨r56_3,r56_4,r56_5,r56_6⟩,r56_7,r56_8,r56_9⟩:=r56
               refine oV (hΦ.F8 g49) ?_
               refine D5 (oC rfl rfl (K3 rfl ?_))
               obtain ⟨l58,g50,h⟩:=o9 h
               refine a6L U0 g50 rfl rfl rfl rfl (.inr rfl) rfl rfl rfl rfl rfl rfl rfl rfl rfl rfl (a7f (a1Y rfl) rfl) rfl rfl rfl ?_
               refine D5 (oC rfl rfl (oC rfl rfl ?_))
               refine a0X ?_
               refine ⟨rfl,?_⟩
               refine eSG (oB 2 rfl ?_)
               cases h
               exact D7 ⟨_,_,_,rfl,rfl,rfl⟩
              ·refine oW (hΦ.F8 g51) ?_
               refine ⟨rfl,rfl,_,_,rfl,?_⟩
               cases h
               exact ⟨_,_,rfl,rfl⟩
             ·refine oW (G8 g52) ?_
              cases h
              exact ⟨_,_,rfl,rfl⟩
            ·refine oW (I6 g53) ?_
             cases h
             exact ⟨_,_,rfl,rfl⟩
           ·refine oW (hΦ.Y9 g54) ?_
            cases h
            exact ⟨_,_,rfl,rfl⟩
          ·refine E8 (eSG (oA 1 rfl ?_))
           rcases o8 h with ⟨⟨r66,at67⟩,g55,h⟩ | ⟨⟨e81,at82⟩,g67,h⟩
           ·obtain ⟨r66_0,r66_1,r66_2,⟨r66_3,r66_4,r66_5,r66_6⟩,r66_7,r66_8,r66_9⟩:=r66
            refine oV (hΦ.A8 g55) ?_
            refine oB 2 rfl (H8 (eSG (oA 1 rfl ?_)))
            obtain ⟨r68,g56,h⟩:=o9 h
            refine oV (G6 g56) ?_
            refine D5 ?_
            refine eI rfl h (fun h=>?_) fun h=>?_
            ·refine H8 (eSG (oA 1 rfl ?_))
             obtain ⟨r69,g58,h⟩:=o9 h
             refine a0t rfl rfl rfl rfl rfl (b5p g58) rfl ?_
             refine oB 1 rfl ?_
             refine eI rfl h (fun h=>?_) fun h=>?_
             ·refine u6 (oA 2 rfl ?_)
              refine oD ?_
              refine oD ?_
              refine oA 1 rfl ?_
              refine b8O rfl rfl rfl ?_
              cases h
              exact ⟨_,_,rfl,rfl⟩
             ·refine E8 (eSG (oB 8 rfl (eSG (oA 4 rfl ?_))))
              refine oD ?_
              refine oB 2 rfl (H8 ?_)
              refine Q0 [640] rfl ?_
              refine oC rfl rfl (oC rfl rfl (oC rfl rfl (K3 rfl ?_)))
              rcases o8 h with ⟨⟨r70,at71⟩,g60,h⟩ | ⟨⟨e76,at77⟩,g64,h⟩
              ·obtain ⟨r70_0,r70_1,r70_2,⟨r70_3,r70_4,r70_5,r70_6⟩,r70_7,r70_8,r70_9⟩:=r70
               refine oV (hΦ.A8 g60) ?_
               refine D5 (oC rfl rfl (K3 rfl ?_))
               obtain ⟨l72,g61,h⟩:=o9 h
               refine a6L U0 g61 rfl rfl rfl rfl (.inr rfl) rfl rfl rfl rfl rfl rfl rfl rfl rfl rfl (a7f (a1Y rfl) rfl) rfl rfl rfl ?_
               refine D5 (oC rfl rfl (oC rfl rfl ?_))
               refine a0X ?_
               refine ⟨rfl,?_⟩
               refine eSG (oA 1 rfl ?_)
               rcases o8 h with ⟨at73,g62,h⟩ | ⟨⟨at74,at75⟩,g63,h⟩
               ·refine oV (o7 g62) ?_
                refine D5 (eSG (oB 2 rfl ?_))
                cases h
                exact D7 ⟨_,_,_,rfl,rfl,rfl⟩
               ·refine oW (o7 g63) ?_
                cases h
                exact ⟨_,_,rfl,rfl⟩
              ·refine oW (hΦ.A8 g64) ?_
               refine ⟨rfl,rfl,_,_,rfl,?_⟩
               cases h
               exact ⟨_,_,rfl,rfl⟩
            ·refine E8 (eSG (oA 1 rfl ?_))
             rcases o8 h with ⟨at78,g65,h⟩ | ⟨⟨at79,at80⟩,g66,h⟩
             ·refine oV (o7 g65) ?_
              refine D5 (eSG (oA 4 rfl ?_))
              refine oD ?_
              refine oB 1 rfl ?_
              cases h
              exact D7 ⟨_,_,_,rfl,rfl,rfl⟩
             ·refine oW (o7 g66) ?_
              cases h
              exact ⟨_,_,rfl,rfl⟩
           ·refine oW (hΦ.A8 g67) ?_
            cases h
            exact ⟨_,_,rfl,rfl⟩
theorem a9d (n:Nat) {Φ:j5} (hΦ:Φ.Ok) {d9:List Tok} {at2:Int} {j6:Int} {r:Rs (Nod × Int) (o6 × Int)} (h:a0K n Φ d9 at2 j6 = some r) :
  E env (.call 100 [.ptr 0 0]) (hP C8 d9 at2 j6) = some (a2i d9 at2 j6 r):=by
 unfold a0K at h
 refine K6 rfl Tryz.func100 rfl rfl ?_
 refine eSG (oB 1 rfl (eSG (oA 1 rfl ?_)))
 obtain ⟨at4,g1,h⟩:=o9 h
 refine oV (E5 g1) ?_
 refine oB 2 rfl ?_
 obtain ⟨y2,g3,h⟩:=R6 h
 refine U2 (KR:=fun r=>a2E env 100 1 Tryz.f100.results.toList (a2i d9 at2 j6 r)) y2 (fun z29=>[(0,.ptr 0 0),(2,.ptr 1 0),(3,.ptr 2 0)]) (fun z29=>[(0,.row [.sl C8 d9,.i z29.1,.i j6]),(1,.row [.i 0,.str [],.i 0,.i 0,.str [],.i 0,.st 3 p9 ([]:List Typ),.st 4 p9 ([]:List Typ),.st 5 F6 ([]:List Nod),.i 0]),(2,.row [.i 21,.str [],.i z29.2,.i 0,.str [],.i 0,.sl p9 ([]:List Typ),.st 6 p9 ([]:List Typ),.st 7 F6 ([]:List Nod),.i at4]),(3,.tip 0 0),(4,.tip 0 0),(5,.tip 0 0),(6,.tip 0 0),(7,.tip 0 0)]) rfl ?_ (fun z29 hx=>?_) (fun r res hz hr hn=>?_)
 ·replace h:=g3
  clear g3
  refine eSG (oA 1 rfl ?_)
  obtain ⟨⟨r5,at6⟩,g4,h⟩:=o9 h
  refine oV (J9 g4) ?_
  refine D5 ?_
  refine eI rfl h (fun h=>?_) fun h=>?_
  ·refine u6 (oB 2 rfl ?_)
   cases h
   exact ⟨_,rfl,rfl⟩
  ·refine u6 (oA 1 rfl ?_)
   rcases o8 h with ⟨at7,g6,h⟩ | ⟨⟨at8,at9⟩,g7,h⟩
   ·refine oV (I6 g6) ?_
    refine D5 ?_
    cases h
    exact ⟨_,rfl,rfl⟩
   ·refine oW (I6 g7) ?_
    cases h
    exact ⟨_,rfl,_,_,rfl,rfl⟩
 ·subst hx
  obtain ⟨b2e,n523⟩:=z29
  refine eSG (oA 1 rfl ?_)
  rcases o8 h with ⟨r10,g8,h⟩ | ⟨at29,g28,h⟩
  ·refine oV (G8 g8) ?_
   refine oB 2 rfl (eSG (oA 1 rfl ?_))
   obtain ⟨⟨r11,at12⟩,g9,h⟩:=o9 h
   refine oV (D9 g9) ?_
   refine oB 1 rfl ?_
   obtain ⟨y10,g11,h⟩:=R6 h
   refine U2 (KR:=fun r=>a2E env 100 1 Tryz.f100.results.toList (a2i d9 at2 j6 r)) y10 (fun z27=>[(0,.ptr 0 0),(2,.ptr 1 0),(3,.ptr 2 0),(4,.bool r11)]) (fun z27=>[(0,.row [.sl C8 d9,.i z27.1,.i j6]),(1,.row [.i 0,.str [],.i 0,.i 0,.str [],.i 0,.st 3 p9 ([]:List Typ),.st 4 p9 ([]:List Typ),.st 5 F6 ([]:List Nod),.i 0]),(2,.row (c0 21 r10 n523 z27.2.1 z27.2.2.1 z27.2.2.2.1 (.sl p9 z27.2.2.2.2) (.st 6 p9 ([]:List Typ)) (.st 7 F6 ([]:List Nod)) at4)),(3,.tip 0 0),(4,.tip 0 0),(5,.tip 0 0),(6,.tip 0 0),(7,.tip 0 0)]) rfl ?_ (fun z27 hx=>?_) (fun r res hz hr hn=>?_)
   ·replace h:=g11
    clear g11
    refine eSG (oB 1 rfl ?_)
    refine eI rfl h (fun h=>?_) fun h=>?_
    ·refine u6 (oA 1 rfl ?_)
     rcases o8 h with ⟨⟨r13,at14⟩,g13,h⟩ | ⟨⟨at15,at16⟩,g14,h⟩
     ·obtain ⟨r13_0,r13_1,r13_2,r13_3⟩:=r13
      refine oV (J6 g13) ?_
      refine oB 2 rfl ?_
      cases h
      exact ⟨_,rfl,rfl⟩
     ·refine oW (J6 g14) ?_
      cases h
      exact ⟨_,rfl,_,_,rfl,rfl⟩
    ·refine E8 ?_
     cases h
     exact ⟨_,rfl,rfl⟩
   ·subst hx
    obtain ⟨b1i,b4i,b4m,n527,b39⟩:=z27
    refine H8 ?_
    obtain ⟨y15,g16,h⟩:=o9 h
    refine a15 [(0,.ptr 0 0),(2,.ptr 1 0),(3,.ptr 2 0),(30,.bool y15.1)] [(0,.row [.sl C8 d9,.i y15.2,.i j6]),(1,.row [.i 0,.str [],.i 0,.i 0,.str [],.i 0,.st 3 p9 ([]:List Typ),.st 4 p9 ([]:List Typ),.st 5 F6 ([]:List Nod),.i 0]),(2,.row (c0 21 r10 n523 b4i b4m n527 (.sl p9 b39) (.st 6 p9 ([]:List Typ)) (.st 7 F6 ([]:List Nod)) at4)),(3,.tip 0 0),(4,.tip 0 0),(5,.tip 0 0),(6,.tip 0 0),(7,.tip 0 0)] rfl ?_ ?_
    ·replace h:=g16
     clear g16
     refine u6 (oA 4 rfl ?_)
     refine M9 rfl rfl rfl (fun g17=>?_) (fun g17=>?_)
     ·replace h:=a2I h g17
      refine oA 3 rfl ?_
      refine M9 rfl rfl rfl (fun g18=>?_) (fun g18=>?_)
      ·replace h:=a2I h g18
       refine oA 1 rfl ?_
       obtain ⟨⟨r17,at18⟩,g19,h⟩:=o9 h
       refine oV (D9 g19) ?_
       refine oB 1 rfl ?_
       cases h
       exact rfl
      ·replace h:=a2H h g18
       refine oB 3 rfl ?_
       cases h
       exact rfl
     ·replace h:=a2H h g17
      refine oB 6 rfl ?_
      cases h
      exact rfl
    ·obtain ⟨x529,a95⟩:=y15
     refine eI rfl h (fun h=>?_) fun h=>?_
     ·refine eSG (oB 2 rfl ?_)
      cases h
      exact D7 ⟨_,_,_,rfl,rfl,rfl⟩
     ·refine E8 (eSG (oA 1 rfl ?_))
      rcases o8 h with ⟨at19,g21,h⟩ | ⟨⟨at27,at28⟩,g26,h⟩
      ·refine oV (o7 g21) ?_
       refine D5 (eSG (oA 1 rfl ?_))
       rcases o8 h with ⟨⟨r20,at21⟩,g22,h⟩ | ⟨⟨e25,at26⟩,g25,h⟩
       ·obtain ⟨r20_0,r20_1,r20_2,⟨r20_3,r20_4,r20_5,r20_6⟩,r20_7,r20_8,r20_9⟩:=r20
        refine oV (hΦ.A8 g22) ?_
        refine oB 3 rfl (eSG (oA 1 rfl ?_))
        rcases o8 h with ⟨at22,g23,h⟩ | ⟨⟨at23,at24⟩,g24,h⟩
        ·refine oV (o7 g23) ?_
         refine D5 (eSG (oB 2 rfl ?_))
         cases h
         exact D7 ⟨_,_,_,rfl,rfl,rfl⟩
        ·refine oW (o7 g24) ?_
         cases h
         exact ⟨_,_,rfl,rfl⟩
       ·refine oW (hΦ.A8 g25) ?_
        cases h
        exact ⟨_,_,rfl,rfl⟩
      ·refine oW (o7 g26) ?_
       cases h
       exact ⟨_,_,rfl,rfl⟩
   ·subst hz
    rcases res with ⟨_ | _ | _ | _,_,_⟩ <;> first | exact absurd rfl hn | exact hr.elim | (cases h; exact hr)
  ·refine oW (G8 g28) ?_
   cases h
   exact ⟨_,_,rfl,rfl⟩
 ·subst hz
  rcases res with ⟨_ | _ | _ | _,_,_⟩ <;> first | exact absurd rfl hn | exact hr.elim | (cases h; exact hr)
theorem a9L (n:Nat) {Φ:j5} (hΦ:Φ.Ok) {d9:List Tok} {at2:Int} {j6:Int} {r:Rs (Nod × Int) (o6 × Int)} (h:a01 n Φ d9 at2 j6 = some r) :
  E env (.call 104 [.ptr 0 0]) (hP C8 d9 at2 j6) = some (a5R d9 at2 j6 r):=by
 unfold a01 at h
 refine K6 rfl Tryz.func104 rfl rfl ?_
 refine eSG (oB 1 rfl (eSG (oA 1 rfl ?_)))
 rcases o8 h with ⟨⟨r4,at5⟩,g1,h⟩ | ⟨⟨e10,at11⟩,g5,h⟩
 ·obtain ⟨r4_0,r4_1,r4_2,⟨r4_3,r4_4,r4_5,r4_6⟩,r4_7,r4_8,r4_9⟩:=r4
  refine oV (hΦ.I9 g1) ?_
  refine oB 2 rfl (eSG ?_)
  obtain ⟨_,g2,h⟩:=o9 h
  refine a0t rfl rfl rfl rfl rfl (b30 g2) rfl ?_
  refine oB 1 rfl (eSG (oA 3 rfl ?_))
  rcases o8 h with ⟨⟨r6,at7⟩,g3,h⟩ | ⟨⟨e8,at9⟩,g4,h⟩
  ·obtain ⟨r6_0,r6_1,r6_2,⟨r6_3,r6_4,r6_5,r6_6⟩,r6_7,r6_8,r6_9⟩:=r6
   refine oV (hΦ.O4 g3) ?_
   refine oB 1 rfl ?_
   cases h
   exact D7 ⟨_,_,_,rfl,rfl,rfl⟩
  ·refine oW (hΦ.O4 g4) ?_
   cases h
   exact ⟨_,_,rfl,rfl⟩
 ·refine oW (hΦ.I9 g5) ?_
  cases h
  exact ⟨_,_,rfl,rfl⟩
theorem a9g (n:Nat) {Φ:j5} (hΦ:Φ.Ok) {d9:List Tok} {at2:Int} {j6:Int} {r:Rs (Nod × Int) (o6 × Int)} (h:a0M n Φ d9 at2 j6 = some r) :
  E env (.call 113 [.ptr 0 0]) (hP C8 d9 at2 j6) = some (a3G d9 at2 j6 r):=by
 unfold a0M at h
 refine K6 rfl Tryz.func113 rfl rfl ?_
 refine eSG (oB 1 rfl (eSG (oA 1 rfl ?_)))
 obtain ⟨at4,g1,h⟩:=o9 h
 refine oV (E5 g1) ?_
 refine oB 2 rfl ?_
 obtain ⟨y2,g3,h⟩:=R6 h
 refine U2 (KR:=fun r=>a2E env 113 1 Tryz.f113.results.toList (a3G d9 at2 j6 r)) y2 (fun z12=>[(0,.ptr 0 0),(2,.ptr 1 0),(3,.ptr 2 0)]) (fun z12=>[(0,.row [.sl C8 d9,.i z12.1,.i j6]),(1,.row [.i 0,.str [],.i 0,.i 0,.str [],.i 0,.st 3 p9 ([]:List Typ),.st 4 p9 ([]:List Typ),.st 5 F6 ([]:List Nod),.i 0]),(2,.row [.i z12.2,.str [],.i 0,.i 0,.str [],.i 0,.sl p9 ([]:List Typ),.st 6 p9 ([]:List Typ),.st 7 F6 ([]:List Nod),.i at4]),(3,.tip 0 0),(4,.tip 0 0),(5,.tip 0 0),(6,.tip 0 0),(7,.tip 0 0)]) rfl ?_ (fun z12 hx=>?_) (fun r res hz hr hn=>?_)
 ·replace h:=g3
  clear g3
  refine eSG (oA 1 rfl ?_)
  obtain ⟨⟨r5,at6⟩,g4,h⟩:=o9 h
  refine oV (D9 g4) ?_
  refine oB 1 rfl ?_
  refine eI rfl h (fun h=>?_) fun h=>?_
  ·refine H8 (eSG (oA 1 rfl ?_))
   obtain ⟨⟨r7,at8⟩,g6,h⟩:=o9 h
   refine oV (D9 g6) ?_
   refine oB 1 rfl ?_
   refine eI rfl h (fun h=>?_) fun h=>?_
   ·refine eSG (oA 1 rfl ?_)
    rcases o8 h with ⟨⟨r9,at10⟩,g8,h⟩ | ⟨⟨e11,at12⟩,g9,h⟩
    ·obtain ⟨r9_0,r9_1,r9_2,⟨r9_3,r9_4,r9_5,r9_6⟩,r9_7,r9_8,r9_9⟩:=r9
     refine oV (hΦ.a0k g8) ?_
     refine oB 1 rfl ?_
     cases h
     exact D7 ⟨_,rfl,_,_,_,rfl,rfl,rfl⟩
    ·refine oW (hΦ.a0k g9) ?_
     cases h
     exact ⟨_,rfl,_,_,rfl,rfl⟩
   ·refine E8 (u6 (oB 2 rfl ?_))
    cases h
    exact ⟨_,rfl,rfl⟩
  ·refine E8 ?_
   cases h
   exact ⟨_,rfl,rfl⟩
 ·subst hx
  obtain ⟨a5L,op502⟩:=z12
  refine eSG (oA 1 rfl ?_)
  rcases o8 h with ⟨⟨r13,at14⟩,g10,h⟩ | ⟨⟨e15,at16⟩,g11,h⟩
  ·obtain ⟨r13_0,r13_1,r13_2,⟨r13_3,r13_4,r13_5,r13_6⟩,r13_7,r13_8,r13_9⟩:=r13
   refine oV (hΦ.I9 g10) ?_
   refine oB 3 rfl (eSG (oB 2 rfl ?_))
   cases h
   exact D7 ⟨_,_,_,rfl,rfl,rfl⟩
  ·refine oW (hΦ.I9 g11) ?_
   cases h
   exact ⟨_,_,rfl,rfl⟩
 ·subst hz
  rcases res with ⟨_ | _ | _ | _,_,_⟩ <;> first | exact absurd rfl hn | exact hr.elim | (cases h; exact hr)
theorem a7K (n:Nat) {Φ:j5} (hΦ:Φ.Ok) {d9:List Tok} {at2:Int} {j6:Int} {r:Rs (Nod × Int) (o6 × Int)} (h:a0l n Φ d9 at2 j6 = some r) :
  E env (.call 122 [.ptr 0 0]) (hP C8 d9 at2 j6) = some (a1X d9 at2 j6 r):=by
 unfold a0l at h
 refine K6 rfl Tryz.func122 rfl rfl ?_
 refine eSG (oB 1 rfl (eSG (oA 1 rfl ?_)))
 obtain ⟨r4,g1,h⟩:=o9 h
 refine oV (G6 g1) ?_
 refine oB 1 rfl (eSG (oA 1 rfl ?_))
 rcases o8 h with ⟨⟨r5,at6⟩,g2,h⟩ | ⟨⟨e27,at28⟩,g26,h⟩
 ·obtain ⟨r5_0,r5_1,r5_2,⟨r5_3,r5_4,r5_5,r5_6⟩,r5_7,r5_8,r5_9⟩:=r5
  refine oV (hΦ.a0F g2) ?_
  refine oB 2 rfl ?_
  refine F9 ?_
  refine Y1 rfl ?_
  obtain ⟨yq,hq⟩:∃ y,y = r:=⟨_,rfl⟩
  rw [<- hq] at h ⊢
  clear hq
  revert yq
  refine a0x (fun m (x:Bool × Int × Nod)=>M4 n Φ j6 d9 m x.1 x.2.1 x.2.2) (fun x=>[(0,.ptr 0 0),(2,.ptr 1 0),(3,.bool x.1),(4,.ptr 2 0)]) (fun x=>[(0,.row [.sl C8 d9,.i x.2.1,.i j6]),(1,.row [.i 0,.str [],.i 0,.i 0,.str [],.i 0,.st 3 p9 ([]:List Typ),.st 4 p9 ([]:List Typ),.st 5 F6 ([]:List Nod),.i 0]),(2,.row (c0 x.2.2.op x.2.2.s x.2.2.n x.2.2.t.kind x.2.2.t.name x.2.2.t.n (.sl p9 x.2.2.t.args) (.sl p9 x.2.2.ts) (.sl F6 x.2.2.l) x.2.2.at_)),(3,.tip 0 0),(4,.tip 0 0),(5,.tip 0 0)]) _ (fun _=>rfl) (fun m4 x y ih h=>?_) n (r4,at6,(Nod.mk r5_0 r5_1 r5_2 (Typ.mk r5_3 r5_4 r5_5 r5_6) r5_7 r5_8 r5_9))
  obtain ⟨b7g,b3o,b5b⟩:=x
  obtain ⟨n546_0,n546_1,n546_2,⟨n546_3,n546_4,n546_5,n546_6⟩,n546_7,n546_8,n546_9⟩:=b5b
  replace h:M4 n Φ j6 d9 (m4 + 1) b7g b3o (Nod.mk n546_0 n546_1 n546_2 (Typ.mk n546_3 n546_4 n546_5 n546_6) n546_7 n546_8 n546_9) = some y:=h
  rw [M4] at h
  refine F9 ?_
  obtain ⟨y3,g4,h⟩:=R6 h
  refine U2 (KR:=fun r=>a2E env 122 1 Tryz.f122.results.toList (a1X d9 at2 j6 r)) y3 (fun z25=>[(0,.ptr 0 0),(2,.ptr 1 0),(4,.ptr 2 0)]) (fun z25=>[(0,.row [.sl C8 d9,.i z25.1,.i j6]),(1,.row [.i 0,.str [],.i 0,.i 0,.str [],.i 0,.st 3 p9 ([]:List Typ),.st 4 p9 ([]:List Typ),.st 5 F6 ([]:List Nod),.i 0]),(2,.row [.i z25.2.1,.str z25.2.2.1,.i 0,.i 0,.str [],.i 0,.st 6 p9 ([]:List Typ),.st 7 p9 ([]:List Typ),.sl F6 z25.2.2.2,.i n546_9]),(3,.tip 0 0),(4,.tip 0 0),(5,.tip 0 0),(6,.tip 0 0),(7,.tip 0 0)]) rfl ?_ (fun z25 hx=>?_) (fun r res hz hr hn=>?_)
  ·replace h:=g4
   clear g4
   refine F9 ?_
   refine eSG (oA 1 rfl ?_)
   obtain ⟨⟨r7,at8⟩,g5,h⟩:=o9 h
   refine oV (D9 g5) ?_
   refine oB 1 rfl ?_
   refine eI rfl h (fun h=>?_) fun h=>?_
   ·refine H8 ?_
    refine Q0 [2,2] rfl ?_
    refine oC rfl rfl (oC rfl rfl (oC rfl rfl (oC rfl rfl (oC rfl rfl (K3 rfl ?_)))))
    rcases o8 h with ⟨r9,g7,h⟩ | ⟨at16,g16,h⟩
    ·refine oV (G8 g7) ?_
     refine D5 (K3 rfl ?_)
     refine oD ?_
     refine D5 (oC rfl rfl (oC rfl rfl ?_))
     refine a0X ?_
     refine ⟨rfl,?_⟩
     obtain ⟨y8,g9,h⟩:=a3o h
     refine U2 (KR:=fun r=>a2E env 122 1 Tryz.f122.results.toList (a1X d9 at2 j6 r)) y8 (fun z15=>[(0,.ptr 0 0),(2,.ptr 1 0),(4,.ptr 2 0),(5,.ptr 3 0)]) (fun z15=>[(0,.row [.sl C8 d9,.i z15.1,.i j6]),(1,.row [.i 0,.str [],.i 0,.i 0,.str [],.i 0,.st 4 p9 ([]:List Typ),.st 5 p9 ([]:List Typ),.st 6 F6 ([]:List Nod),.i 0]),(2,.row (c0 n546_0 n546_1 n546_2 n546_3 n546_4 n546_5 (.sl p9 n546_6) (.sl p9 n546_7) (.sl F6 n546_8) n546_9)),(3,.row [.i z15.2.1,.str r9,.i 0,.i 0,.str [],.i 0,.st 7 p9 ([]:List Typ),.st 8 p9 ([]:List Typ),.st 9 F6 z15.2.2,.i n546_9]),(4,.tip 0 0),(5,.tip 0 0),(6,.tip 0 0),(7,.tip 0 0),(8,.tip 0 0),(9,.tip (tpe 10 (List.length z15.2.2)) (List.length z15.2.2))]) rfl ?_ (fun z15 hx=>?_) (fun r res hz hr hn=>?_)
     ·replace h:=g9
      clear g9
      refine eSG (oA 1 rfl ?_)
      obtain ⟨r10,g10,h⟩:=o9 h
      refine oV (G6 g10) ?_
      refine D5 ?_
      refine eI rfl h (fun h=>?_) fun h=>?_
      ·refine eSG (oB 2 rfl ?_)
       refine Q0 [384] rfl ?_
       refine oC rfl rfl (oC rfl rfl (oC rfl rfl (K3 rfl ?_)))
       rcases o8 h with ⟨⟨r11,at12⟩,g12,h⟩ | ⟨⟨e14,at15⟩,g14,h⟩
       ·refine oV (hΦ.K7 g12) ?_
        refine D5 (K3 rfl ?_)
        obtain ⟨l13,g13,h⟩:=o9 h
        refine c0T U0 g13 rfl rfl rfl rfl (.inr ⟨rfl,b41 (Nat.succ_le_succ (Nat.zero_le _))⟩) rfl rfl rfl rfl rfl rfl rfl rfl rfl rfl (a7f (a1Y (a18.length U0 _).symm) rfl) rfl rfl ?_
        refine D5 (oC rfl rfl (oC rfl rfl ?_))
        refine a0X ?_
        refine ⟨rfl,?_⟩
        cases h
        exact ⟨_,rfl,rfl⟩
       ·refine oW (hΦ.K7 g14) ?_
        refine ⟨rfl,rfl,_,_,rfl,?_⟩
        cases h
        exact ⟨_,rfl,_,_,rfl,rfl⟩
      ·refine E8 ?_
       cases h
       exact ⟨_,rfl,rfl⟩
     ·subst hx
      obtain ⟨at554,op555,l556⟩:=z15
      refine u6 (oB 2 rfl ?_)
      cases h
      exact ⟨_,rfl,rfl⟩
     ·subst hz
      rcases res with ⟨_ | _ | _ | _,_,_⟩ <;> first | exact absurd rfl hn | exact hr.elim | (cases h; exact ⟨_,rfl,hr⟩)
    ·refine oW (G8 g16) ?_
     refine ⟨rfl,rfl,_,_,rfl,?_⟩
     cases h
     exact ⟨_,rfl,_,_,rfl,rfl⟩
   ·refine eSG (oA 1 rfl ?_)
    obtain ⟨r17,g17,h⟩:=o9 h
    refine oV (G6 g17) ?_
    refine oB 1 rfl ?_
    refine eI rfl h (fun h=>?_) fun h=>?_
    ·refine eSG (oB 1 rfl ?_)
     refine eI rfl h (fun h=>?_) fun h=>?_
     ·refine Q0 [2,2] rfl ?_
      refine oC rfl rfl (oC rfl rfl (oC rfl rfl (oC rfl rfl (oC rfl rfl (K3 rfl ?_)))))
      rcases o8 h with ⟨⟨r18,at19⟩,g20,h⟩ | ⟨⟨e20,at21⟩,g21,h⟩
      ·refine oV (hΦ.K7 g20) ?_
       refine D5 (K3 rfl ?_)
       refine oD ?_
       refine D5 (oC rfl rfl ?_)
       refine a0X ?_
       refine ⟨rfl,?_⟩
       cases h
       exact ⟨_,rfl,rfl⟩
      ·refine oW (hΦ.K7 g21) ?_
       refine ⟨rfl,rfl,_,_,rfl,?_⟩
       cases h
       exact ⟨_,rfl,_,_,rfl,rfl⟩
     ·refine eSG (oA 4 rfl ?_)
      refine oD ?_
      refine oB 2 rfl (H8 ?_)
      refine Q0 [448] rfl ?_
      refine oC rfl rfl (oC rfl rfl (oC rfl rfl (K3 rfl ?_)))
      rcases o8 h with ⟨⟨r22,at23⟩,g22,h⟩ | ⟨⟨e25,at26⟩,g24,h⟩
      ·refine oV (hΦ.K7 g22) ?_
       refine D5 (K3 rfl ?_)
       obtain ⟨l24,g23,h⟩:=o9 h
       refine c0T U0 g23 rfl rfl rfl rfl (.inr ⟨rfl,b41 (Nat.succ_le_succ (Nat.zero_le _))⟩) rfl rfl rfl rfl rfl rfl rfl rfl rfl rfl (a7f (a1Y (a18.length U0 _).symm) rfl) rfl rfl ?_
       refine D5 (oC rfl rfl (oC rfl rfl ?_))
       refine a0X ?_
       refine ⟨rfl,?_⟩
       refine u6 (oB 2 rfl ?_)
       cases h
       exact ⟨_,rfl,rfl⟩
      ·refine oW (hΦ.K7 g24) ?_
       refine ⟨rfl,rfl,_,_,rfl,?_⟩
       cases h
       exact ⟨_,rfl,_,_,rfl,rfl⟩
    ·refine eSG (oB 2 rfl ?_)
     cases h
     exact D7 ⟨_,rfl,_,_,_,rfl,rfl,rfl⟩
  ·subst hx
   obtain ⟨at557,op558,s559,l560⟩:=z25
   refine u6 (oB 1 rfl ?_)
   exact ⟨_,_,rfl,ih (_,_,_) _ h⟩
  ·subst hz
   rcases res with ⟨_ | _ | _ | _,_,_⟩ <;> first | exact absurd rfl hn | exact hr.elim | (cases h; exact hr)
 ·refine oW (hΦ.a0F g26) ?_
  cases h
  exact ⟨_,_,rfl,rfl⟩
theorem a9K (n:Nat) {Φ:j5} (hΦ:Φ.Ok) {d9:List Tok} {at2:Int} {j6:Int} {r:Rs (Nod × Int) (o6 × Int)} (h:a0b n Φ d9 at2 j6 = some r) :
  E env (.call 127 [.ptr 0 0]) (hP C8 d9 at2 j6) = some (a2B d9 at2 j6 r):=by
 unfold a0b at h
 refine K6 rfl Tryz.func127 rfl rfl ?_
 refine eSG (oB 1 rfl (eSG (oA 1 rfl ?_)))
 obtain ⟨at4,g1,h⟩:=o9 h
 refine oV (E5 g1) ?_
 refine oB 2 rfl ?_
 obtain ⟨y2,g3,h⟩:=R6 h
 refine U2 (KR:=fun r=>a2E env 127 1 Tryz.f127.results.toList (a2B d9 at2 j6 r)) y2 (fun z69=>[(2,.ptr 1 0),(3,.ptr 2 0)]) (fun z69=>[(0,.row [.sl C8 d9,.i z69.1,.i j6]),(1,.row [.i 0,.str [],.i 0,.i 0,.str [],.i 0,.st 3 p9 ([]:List Typ),.st 4 p9 ([]:List Typ),.st 5 F6 ([]:List Nod),.i 0]),(2,.row (c0 z69.2.1 z69.2.2.1 z69.2.2.2.1 z69.2.2.2.2.1 z69.2.2.2.2.2.1 z69.2.2.2.2.2.2.1 (.sl p9 z69.2.2.2.2.2.2.2.1) (.st 6 p9 ([]:List Typ)) (.sl F6 z69.2.2.2.2.2.2.2.2) at4)),(3,.tip 0 0),(4,.tip 0 0),(5,.tip 0 0),(6,.tip 0 0)]) rfl ?_ (fun z69 hx=>?_) (fun r res hz hr hn=>?_)
 ·replace h:=g3
  clear g3
  refine F9 ?_
  refine eSG (oA 1 rfl ?_)
  obtain ⟨r5,g4,h⟩:=o9 h
  refine oV (G6 g4) ?_
  refine oB 1 rfl ?_
  refine eI rfl h (fun h=>?_) fun h=>?_
  ·refine u6 (oA 1 rfl ?_)
   rcases o8 h with ⟨r6,g6,h⟩ | ⟨at7,g7,h⟩
   ·refine oV (a05 g6) ?_
    refine oB 4 rfl ?_
    cases h
    exact ⟨_,rfl,rfl⟩
   ·refine oW (a05 g7) ?_
    cases h
    exact ⟨_,rfl,_,_,rfl,rfl⟩
  ·refine eSG (oA 1 rfl ?_)
   obtain ⟨r8,g8,h⟩:=o9 h
   refine oV (G6 g8) ?_
   refine oB 1 rfl ?_
   refine eI rfl h (fun h=>?_) fun h=>?_
   ·refine u6 (oA 1 rfl ?_)
    rcases o8 h with ⟨r9,g10,h⟩ | ⟨at10,g11,h⟩
    ·refine oV (L8 g10) ?_
     refine oB 5 rfl ?_
     cases h
     exact ⟨_,rfl,rfl⟩
    ·refine oW (L8 g11) ?_
     cases h
     exact ⟨_,rfl,_,_,rfl,rfl⟩
   ·refine eSG (oA 1 rfl ?_)
    obtain ⟨r11,g12,h⟩:=o9 h
    refine oV (G6 g12) ?_
    refine oB 1 rfl ?_
    refine eI rfl h (fun h=>?_) fun h=>?_
    ·refine eSG (oA 1 rfl ?_)
     rcases o8 h with ⟨⟨r12,at13⟩,g14,h⟩ | ⟨⟨e14,at15⟩,g15,h⟩
     ·obtain ⟨r12_0,r12_1,r12_2,⟨r12_3,r12_4,r12_5,r12_6⟩,r12_7,r12_8,r12_9⟩:=r12
      refine oV (hΦ.a0z g14) ?_
      refine oB 1 rfl ?_
      cases h
      exact D7 ⟨_,rfl,_,_,_,rfl,rfl,rfl⟩
     ·refine oW (hΦ.a0z g15) ?_
      cases h
      exact ⟨_,rfl,_,_,rfl,rfl⟩
    ·refine eSG (oA 1 rfl ?_)
     obtain ⟨⟨r16,at17⟩,g16,h⟩:=o9 h
     refine oV (J9 g16) ?_
     refine oB 1 rfl ?_
     refine eI rfl h (fun h=>?_) fun h=>?_
     ·refine u6 (oB 4 rfl ?_)
      cases h
      exact ⟨_,rfl,rfl⟩
     ·refine eSG (oA 1 rfl ?_)
      obtain ⟨⟨r18,at19⟩,g18,h⟩:=o9 h
      refine oV (J9 g18) ?_
      refine oB 1 rfl ?_
      refine eI rfl h (fun h=>?_) fun h=>?_
      ·refine u6 (oB 2 rfl ?_)
       cases h
       exact ⟨_,rfl,rfl⟩
      ·refine eSG (oA 1 rfl ?_)
       obtain ⟨r20,g20,h⟩:=o9 h
       refine oV (G6 g20) ?_
       refine oB 1 rfl ?_
       refine eI rfl h (fun h=>?_) fun h=>?_
       ·refine u6 (oA 1 rfl ?_)
        rcases o8 h with ⟨r21,g22,h⟩ | ⟨at22,g23,h⟩
        ·refine oV (G8 g22) ?_
         refine oB 4 rfl ?_
         cases h
         exact ⟨_,rfl,rfl⟩
        ·refine oW (G8 g23) ?_
         cases h
         exact ⟨_,rfl,_,_,rfl,rfl⟩
       ·refine eSG (oA 1 rfl ?_)
        obtain ⟨⟨r23,at24⟩,g24,h⟩:=o9 h
        refine oV (J9 g24) ?_
        refine oB 1 rfl ?_
        refine eI rfl h (fun h=>?_) fun h=>?_
        ·refine u6 (oA 1 rfl ?_)
         rcases o8 h with ⟨r25,g26,h⟩ | ⟨at26,g27,h⟩
         ·refine oV (G8 g26) ?_
          refine oB 4 rfl ?_
          cases h
          exact ⟨_,rfl,rfl⟩
         ·refine oW (G8 g27) ?_
          cases h
          exact ⟨_,rfl,_,_,rfl,rfl⟩
        ·refine eSG (oA 1 rfl ?_)
         obtain ⟨⟨r27,at28⟩,g28,h⟩:=o9 h
         refine oV (D9 g28) ?_
         refine oB 1 rfl ?_
         refine eI rfl h (fun h=>?_) fun h=>?_
         ·refine eSG (oB 2 rfl (H8 (eSG (oA 1 rfl ?_))))
          obtain ⟨⟨r29,at30⟩,g30,h⟩:=o9 h
          refine oV (D9 g30) ?_
          refine D5 ?_
          refine eI rfl h (fun h=>?_) fun h=>?_
          ·refine V7 ?_
           cases h
           exact ⟨_,rfl,rfl⟩
          ·refine E8 (H8 ?_)
           refine Q0 [256] rfl ?_
           refine oC rfl rfl (oC rfl rfl (oC rfl rfl (K3 rfl ?_)))
           rcases o8 h with ⟨⟨r31,at32⟩,g32,h⟩ | ⟨⟨e44,at45⟩,g44,h⟩
           ·obtain ⟨r31_0,r31_1,r31_2,⟨r31_3,r31_4,r31_5,r31_6⟩,r31_7,r31_8,r31_9⟩:=r31
            refine oV (hΦ.A8 g32) ?_
            refine D5 (oC rfl rfl (K3 rfl ?_))
            obtain ⟨l33,g33,h⟩:=o9 h
            refine oP U0 g33 ?_
            refine D5 (oC rfl rfl (oC rfl rfl ?_))
            refine a0X ?_
            refine ⟨rfl,?_⟩
            obtain ⟨y34,g35,h⟩:=a3o h
            refine U2 (KR:=fun r=>a2E env 127 1 Tryz.f127.results.toList (a2B d9 at2 j6 r)) y34 (fun z43=>[(0,.ptr 0 0),(2,.ptr 1 0),(3,.ptr 2 0)]) (fun z43=>[(0,.row [.sl C8 d9,.i z43.1,.i j6]),(1,.row [.i 0,.str [],.i 0,.i 0,.str [],.i 0,.st 3 p9 ([]:List Typ),.st 4 p9 ([]:List Typ),.st 5 F6 ([]:List Nod),.i 0]),(2,.row [.i 67,.str [],.i 0,.i 0,.str [],.i 0,.sl p9 ([]:List Typ),.st 6 p9 ([]:List Typ),.st 7 F6 z43.2,.i at4]),(3,.tip 0 0),(4,.tip 0 0),(5,.tip 0 0),(6,.tip 0 0),(7,.tip (tpe 10 (List.length z43.2)) (List.length z43.2))]) rfl ?_ (fun z43 hx=>?_) (fun r res hz hr hn=>?_)
            ·replace h:=g35
             clear g35
             refine F9 ?_
             refine Y1 rfl ?_
             revert y34
             refine a0x (fun m (x:Int × List Nod)=>V8 n Φ j6 d9 m x.1 x.2) (fun x=>[(0,.ptr 0 0),(2,.ptr 1 0),(3,.ptr 2 0)]) (fun x=>[(0,.row [.sl C8 d9,.i x.1,.i j6]),(1,.row [.i 0,.str [],.i 0,.i 0,.str [],.i 0,.st 3 p9 ([]:List Typ),.st 4 p9 ([]:List Typ),.st 5 F6 ([]:List Nod),.i 0]),(2,.row [.i 67,.str [],.i 0,.i 0,.str [],.i 0,.sl p9 ([]:List Typ),.st 6 p9 ([]:List Typ),.st 7 F6 x.2,.i at4]),(3,.tip 0 0),(4,.tip 0 0),(5,.tip 0 0),(6,.tip 0 0),(7,.tip (tpe 10 (List.length x.2)) (List.length x.2))]) _ (fun _=>rfl) (fun m27 x y ih h=>?_) n (at32,l33)
             obtain ⟨at569,l570⟩:=x
             rw [V8] at h
             refine H8 (eSG (oA 1 rfl ?_))
             obtain ⟨⟨r34,at35⟩,g36,h⟩:=o9 h
             refine oV (D9 g36) ?_
             refine D5 ?_
             refine eI rfl h (fun h=>?_) fun h=>?_
             ·refine E8 ?_
              refine F9 ?_
              refine Q0 [2] rfl ?_
              refine oC rfl rfl (oC rfl rfl (oC rfl rfl (K3 rfl ?_)))
              rcases o8 h with ⟨⟨r36,at37⟩,g38,h⟩ | ⟨⟨e39,at40⟩,g40,h⟩
              ·obtain ⟨r36_0,r36_1,r36_2,⟨r36_3,r36_4,r36_5,r36_6⟩,r36_7,r36_8,r36_9⟩:=r36
               refine oV (hΦ.A8 g38) ?_
               refine D5 (oC rfl rfl (K3 rfl ?_))
               obtain ⟨l38,g39,h⟩:=o9 h
               refine oP U0 g39 ?_
               refine D5 (oC rfl rfl (oC rfl rfl ?_))
               refine a0X ?_
               refine ⟨rfl,?_⟩
               exact ⟨_,_,rfl,ih (_,_) _ h⟩
              ·refine oW (hΦ.A8 g40) ?_
               refine ⟨rfl,rfl,_,_,rfl,?_⟩
               cases h
               exact ⟨_,rfl,_,_,rfl,rfl⟩
             ·refine V7 ?_
              cases h
              exact ⟨_,rfl,rfl⟩
            ·subst hx
             obtain ⟨at587,l588⟩:=z43
             refine u6 (oA 1 rfl ?_)
             rcases o8 h with ⟨at41,g41,h⟩ | ⟨⟨at42,at43⟩,g42,h⟩
             ·refine oV (o7 g41) ?_
              refine D5 ?_
              cases h
              exact ⟨_,rfl,rfl⟩
             ·refine oW (o7 g42) ?_
              cases h
              exact ⟨_,rfl,_,_,rfl,rfl⟩
            ·subst hz
             rcases res with ⟨_ | _ | _ | _,_,_⟩ <;> first | exact absurd rfl hn | exact hr.elim | (cases h; exact ⟨_,rfl,hr⟩)
           ·refine oW (hΦ.A8 g44) ?_
            refine ⟨rfl,rfl,_,_,rfl,?_⟩
            cases h
            exact ⟨_,rfl,_,_,rfl,rfl⟩
         ·refine eSG (oA 1 rfl ?_)
          obtain ⟨⟨r46,at47⟩,g45,h⟩:=o9 h
          refine oV (D9 g45) ?_
          refine oB 1 rfl ?_
          refine eI rfl h (fun h=>?_) fun h=>?_
          ·refine eSG (oA 1 rfl ?_)
           rcases o8 h with ⟨⟨r48,at49⟩,g47,h⟩ | ⟨⟨e53,at54⟩,g50,h⟩
           ·obtain ⟨r48_0,r48_1,r48_2,⟨r48_3,r48_4,r48_5,r48_6⟩,r48_7,r48_8,r48_9⟩:=r48
            refine oV (hΦ.A8 g47) ?_
            refine oB 2 rfl (eSG (oA 1 rfl ?_))
            rcases o8 h with ⟨at50,g48,h⟩ | ⟨⟨at51,at52⟩,g49,h⟩
            ·refine oV (o7 g48) ?_
             refine D5 (eSG (oB 2 rfl ?_))
             cases h
             exact D7 ⟨_,rfl,_,_,_,rfl,rfl,rfl⟩
            ·refine oW (o7 g49) ?_
             cases h
             exact ⟨_,rfl,_,_,rfl,rfl⟩
           ·refine oW (hΦ.A8 g50) ?_
            cases h
            exact ⟨_,rfl,_,_,rfl,rfl⟩
          ·refine eSG (oA 1 rfl ?_)
           obtain ⟨r55,g51,h⟩:=o9 h
           refine oV (G6 g51) ?_
           refine oB 1 rfl ?_
           refine eI rfl h (fun h=>?_) fun h=>?_
           ·refine eSG (oA 1 rfl ?_)
            rcases o8 h with ⟨⟨r56,at57⟩,g53,h⟩ | ⟨⟨e58,at59⟩,g54,h⟩
            ·obtain ⟨r56_0,r56_1,r56_2,⟨r56_3,r56_4,r56_5,r56_6⟩,r56_7,r56_8,r56_9⟩:=r56
             refine oV (hΦ.a0g g53) ?_
             refine oB 1 rfl ?_
             cases h
             exact D7 ⟨_,rfl,_,_,_,rfl,rfl,rfl⟩
            ·refine oW (hΦ.a0g g54) ?_
             cases h
             exact ⟨_,rfl,_,_,rfl,rfl⟩
           ·refine eSG (oA 1 rfl ?_)
            rcases o8 h with ⟨⟨r60,at61⟩,g55,h⟩ | ⟨⟨at77,at78⟩,g68,h⟩
            ·obtain ⟨r60_0,r60_1,r60_2,r60_3⟩:=r60
             refine oV (a6t g55) ?_
             refine oB 2 rfl (H8 (eSG (oA 1 rfl ?_)))
             obtain ⟨r62,g56,h⟩:=o9 h
             refine oV (G6 g56) ?_
             refine D5 ?_
             refine eI rfl h (fun h=>?_) fun h=>?_
             ·refine eSG (oA 1 rfl ?_)
              rcases o8 h with ⟨⟨r63,at64⟩,g58,h⟩ | ⟨⟨e65,at66⟩,g59,h⟩
              ·refine oV (hΦ.K7 g58) ?_
               refine oB 4 rfl ?_
               refine V7 ?_
               cases h
               exact ⟨_,rfl,rfl⟩
              ·refine oW (hΦ.K7 g59) ?_
               cases h
               exact ⟨_,rfl,_,_,rfl,rfl⟩
             ·refine E8 (eSG (oA 1 rfl ?_))
              rcases o8 h with ⟨at67,g60,h⟩ | ⟨⟨at75,at76⟩,g67,h⟩
              ·refine oV (o7 g60) ?_
               refine D5 (eSG (oA 1 rfl ?_))
               rcases o8 h with ⟨r68,g61,h⟩ | ⟨at74,g66,h⟩
               ·refine oV (G8 g61) ?_
                refine oB 4 rfl (eSG (oA 1 rfl ?_))
                obtain ⟨r69,g62,h⟩:=o9 h
                refine oV (G6 g62) ?_
                refine D5 ?_
                refine eI rfl h (fun h=>?_) fun h=>?_
                ·refine u6 (oA 1 rfl ?_)
                 rcases o8 h with ⟨⟨r70,at71⟩,g64,h⟩ | ⟨⟨e72,at73⟩,g65,h⟩
                 ·refine oV (hΦ.K7 g64) ?_
                  refine oB 4 rfl ?_
                  cases h
                  exact ⟨_,rfl,rfl⟩
                 ·refine oW (hΦ.K7 g65) ?_
                  cases h
                  exact ⟨_,rfl,_,_,rfl,rfl⟩
                ·refine E8 ?_
                 cases h
                 exact ⟨_,rfl,rfl⟩
               ·refine oW (G8 g66) ?_
                cases h
                exact ⟨_,rfl,_,_,rfl,rfl⟩
              ·refine oW (o7 g67) ?_
               cases h
               exact ⟨_,rfl,_,_,rfl,rfl⟩
            ·refine oW (a6t g68) ?_
             cases h
             exact ⟨_,rfl,_,_,rfl,rfl⟩
 ·subst hx
  obtain ⟨a6C,op518,s519,n520,c0I,c0R,n523,c0q,l525⟩:=z69
  refine eSG (oB 2 rfl ?_)
  cases h
  exact D7 ⟨_,_,_,rfl,rfl,rfl⟩
 ·subst hz
  rcases res with ⟨_ | _ | _ | _,_,_⟩ <;> first | exact absurd rfl hn | exact hr.elim | (cases h; exact hr)
theorem a9J (n:Nat) {Φ:j5} (hΦ:Φ.Ok) {d9:List Tok} {at2:Int} {j6:Int} {r:Rs (List Nod × Int) (o6 × Int)} (h:a00 n Φ d9 at2 j6 = some r) :
  E env (.call 128 [.ptr 0 0]) (hP C8 d9 at2 j6) = some (a2A d9 at2 j6 r):=by
 unfold a00 at h
 refine K6 rfl Tryz.func128 rfl rfl ?_
 refine eSG (oB 1 rfl (eSG (oB 1 rfl (eSG (oA 1 rfl ?_)))))
 rcases o8 h with ⟨at4,g1,h⟩ | ⟨⟨at25,at26⟩,g23,h⟩
 ·refine oV (o7 g1) ?_
  refine D5 (H8 (eSG (oA 1 rfl ?_)))
  obtain ⟨⟨r5,at6⟩,g2,h⟩:=o9 h
  refine oV (D9 g2) ?_
  refine D5 ?_
  refine eI rfl h (fun h=>?_) fun h=>?_
  ·refine eSG (oB 1 rfl ?_)
   cases h
   exact D7 ⟨_,_,_,rfl,rfl,rfl⟩
  ·refine E8 ?_
   obtain ⟨y4,g5,h⟩:=R6 h
   refine U2 (KR:=fun r=>a2E env 128 1 Tryz.f128.results.toList (a2A d9 at2 j6 r)) y4 (fun z22=>[(0,.ptr 0 0),(3,.st 1 F6 z22.1)]) (fun z22=>[(0,.row [.sl C8 d9,.i z22.2,.i j6]),(1,.tip (tpe 10 (List.length z22.1)) (List.length z22.1))]) rfl ?_ (fun z22 hx=>?_) (fun r res hz hr hn=>?_)
   ·replace h:=g5
    clear g5
    refine F9 ?_
    refine Y1 rfl ?_
    revert y4
    refine a0x (fun m (x:List Nod × Int)=>Y4 n Φ j6 d9 m x.1 x.2) (fun x=>[(0,.ptr 0 0),(3,.st 1 F6 x.1)]) (fun x=>[(0,.row [.sl C8 d9,.i x.2,.i j6]),(1,.tip (tpe 10 (List.length x.1)) (List.length x.1))]) _ (fun _=>rfl) (fun m5 x y ih h=>?_) n (([]:List Nod),at6)
    obtain ⟨b25,a3n⟩:=x
    rw [Y4] at h
    refine F9 ?_
    refine eSG (oA 1 rfl ?_)
    obtain ⟨at7,g6,h⟩:=o9 h
    refine oV (E5 g6) ?_
    refine oB 2 rfl ?_
    obtain ⟨y7,g8,h⟩:=a3o h
    refine U2 (KR:=fun r=>a2E env 128 1 Tryz.f128.results.toList (a2A d9 at2 j6 r)) y7 (fun z19=>[(0,.ptr 0 0),(3,.st 1 F6 z19.1)]) (fun z19=>[(0,.row [.sl C8 d9,.i z19.2,.i j6]),(1,.tip (tpe 10 (List.length z19.1)) (List.length z19.1))]) rfl ?_ (fun z19 hx=>?_) (fun r res hz hr hn=>?_)
    ·replace h:=g8
     clear g8
     refine eSG (oA 1 rfl ?_)
     obtain ⟨⟨r8,at9⟩,g9,h⟩:=o9 h
     refine oV (D9 g9) ?_
     refine D5 ?_
     refine eI rfl h (fun h=>?_) fun h=>?_
     ·refine eSG (oA 1 rfl ?_)
      rcases o8 h with ⟨⟨r10,at11⟩,g11,h⟩ | ⟨⟨at13,at14⟩,g13,h⟩
      ·obtain ⟨r10_0,r10_1,r10_2,⟨r10_3,r10_4,r10_5,r10_6⟩,r10_7,r10_8,r10_9⟩:=r10
       refine oV (a5S g11) ?_
       refine oB 3 rfl (u6 (oA 3 rfl ?_))
       obtain ⟨l12,g12,h⟩:=o9 h
       refine oP U0 g12 ?_
       refine oB 1 rfl ?_
       cases h
       exact ⟨_,rfl,rfl⟩
      ·refine oW (a5S g13) ?_
       cases h
       exact ⟨_,rfl,_,_,rfl,rfl⟩
     ·refine u6 (oA 2 rfl ?_)
      rcases o8 h with ⟨⟨r15,at16⟩,g14,h⟩ | ⟨⟨e18,at19⟩,g16,h⟩
      ·obtain ⟨r15_0,r15_1,r15_2,⟨r15_3,r15_4,r15_5,r15_6⟩,r15_7,r15_8,r15_9⟩:=r15
       refine oV (hΦ.A8 g14) ?_
       refine oA 1 rfl ?_
       obtain ⟨l17,g15,h⟩:=o9 h
       refine oP U0 g15 ?_
       refine oB 1 rfl ?_
       cases h
       exact ⟨_,rfl,rfl⟩
      ·refine oW (hΦ.A8 g16) ?_
       cases h
       exact ⟨_,rfl,_,_,rfl,rfl⟩
    ·subst hx
     obtain ⟨l551,at552⟩:=z19
     refine eSG (oA 1 rfl ?_)
     obtain ⟨⟨r20,at21⟩,g17,h⟩:=o9 h
     refine oV (D9 g17) ?_
     refine oB 1 rfl ?_
     refine eI rfl h (fun h=>?_) fun h=>?_
     ·refine V7 ?_
      cases h
      exact ⟨_,rfl,rfl⟩
     ·refine E8 ?_
      exact ⟨_,_,rfl,ih (_,_) _ h⟩
    ·subst hz
     rcases res with ⟨_ | _ | _ | _,_,_⟩ <;> first | exact absurd rfl hn | exact hr.elim | (cases h; exact ⟨_,rfl,hr⟩)
   ·subst hx
    obtain ⟨a9C,a4h⟩:=z22
    refine eSG (oA 1 rfl ?_)
    rcases o8 h with ⟨at22,g20,h⟩ | ⟨⟨at23,at24⟩,g21,h⟩
    ·refine oV (o7 g20) ?_
     refine D5 (eSG (oB 2 rfl ?_))
     cases h
     exact D7 ⟨_,_,_,rfl,rfl,rfl⟩
    ·refine oW (o7 g21) ?_
     cases h
     exact ⟨_,_,rfl,rfl⟩
   ·subst hz
    rcases res with ⟨_ | _ | _ | _,_,_⟩ <;> first | exact absurd rfl hn | exact hr.elim | (cases h; exact hr)
 ·refine oW (o7 g23) ?_
  cases h
  exact ⟨_,_,rfl,rfl⟩
theorem a8y (n:Nat) {Φ:j5} (hΦ:Φ.Ok) {d9:List Tok} {at2:Int} {j6:Int} {r:Rs (Nod × Int) (o6 × Int)} (h:a0v n Φ d9 at2 j6 = some r) :
  E env (.call 135 [.ptr 0 0]) (hP C8 d9 at2 j6) = some (a5j d9 at2 j6 r):=by
 unfold a0v at h
 refine K6 rfl Tryz.func135 rfl rfl ?_
 refine eSG (oB 1 rfl (eSG (oA 1 rfl ?_)))
 obtain ⟨at4,g1,h⟩:=o9 h
 refine oV (E5 g1) ?_
 refine oB 2 rfl (eSG (oA 1 rfl ?_))
 obtain ⟨at5,g2,h⟩:=o9 h
 refine oV (E5 g2) ?_
 refine oB 2 rfl (eSG (oA 1 rfl ?_))
 rcases o8 h with ⟨r6,g3,h⟩ | ⟨at20,g16,h⟩
 ·refine oV (L8 g3) ?_
  refine oB 3 rfl (eSG (oB 4 rfl ?_))
  refine F9 ?_
  refine Y1 rfl ?_
  obtain ⟨yq,hq⟩:∃ y,y = r:=⟨_,rfl⟩
  rw [<- hq] at h ⊢
  clear hq
  revert yq
  refine a0x (fun m (x:Int × List Nod × Str × Int)=>Y3 n Φ at4 j6 d9 m x.1 x.2.1 x.2.2.1 x.2.2.2) (fun x=>[(0,.ptr 0 0),(2,.ptr 1 0),(3,.ptr 2 0),(4,.ptr 3 0)]) (fun x=>[(0,.row [.sl C8 d9,.i x.1,.i j6]),(1,.row [.i 0,.str [],.i 0,.i 0,.str [],.i 0,.st 4 p9 ([]:List Typ),.st 5 p9 ([]:List Typ),.st 6 F6 ([]:List Nod),.i 0]),(2,.row [.i 53,.str [],.i 0,.i 0,.str [],.i 0,.sl p9 ([]:List Typ),.st 7 p9 ([]:List Typ),.st 8 F6 x.2.1,.i at4]),(3,.row [.i 52,.str x.2.2.1,.i 0,.i 0,.str [],.i 0,.sl p9 ([]:List Typ),.st 9 p9 ([]:List Typ),.st 10 F6 ([]:List Nod),.i x.2.2.2]),(4,.tip 0 0),(5,.tip 0 0),(6,.tip 0 0),(7,.tip 0 0),(8,.tip (tpe 10 (List.length x.2.1)) (List.length x.2.1)),(9,.tip 0 0),(10,.tip 0 0)]) _ (fun _=>rfl) (fun m5 x y ih h=>?_) n ((w64 (at2 + 1)),([(⟨52,r6.text,0,(⟨0,[],0,[]⟩:Typ),[],[],at5⟩:Nod)]:List Nod),r6.text,at5)
  obtain ⟨a2P,l512,s513,a6B⟩:=x
  rw [Y3] at h
  refine F9 ?_
  refine H8 ?_
  refine Q0 [2] rfl ?_
  refine oC rfl rfl (oC rfl rfl (oC rfl rfl (K3 rfl ?_)))
  rcases o8 h with ⟨⟨r7,at8⟩,g4,h⟩ | ⟨⟨e18,at19⟩,g15,h⟩
  ·obtain ⟨r7_0,r7_1,r7_2,⟨r7_3,r7_4,r7_5,r7_6⟩,r7_7,r7_8,r7_9⟩:=r7
   refine oV (hΦ.A8 g4) ?_
   refine D5 (oC rfl rfl (K3 rfl ?_))
   obtain ⟨l9,g5,h⟩:=o9 h
   refine oP U0 g5 ?_
   refine D5 (oC rfl rfl (oC rfl rfl ?_))
   refine a0X ?_
   refine ⟨rfl,?_⟩
   refine eSG (oA 1 rfl ?_)
   obtain ⟨at10,g6,h⟩:=o9 h
   refine oV (E5 g6) ?_
   refine oB 1 rfl (H8 (eSG (oA 1 rfl ?_)))
   obtain ⟨r11,g7,h⟩:=o9 h
   refine oV (G6 g7) ?_
   refine D5 ?_
   refine eI rfl h (fun h=>?_) fun h=>?_
   ·refine eSG (oA 1 rfl ?_)
    rcases o8 h with ⟨r12,g9,h⟩ | ⟨at14,g11,h⟩
    ·refine oV (L8 g9) ?_
     refine oB 3 rfl (eSG (oA 4 rfl ?_))
     obtain ⟨l13,g10,h⟩:=o9 h
     refine oP U0 g10 ?_
     refine oB 2 rfl ?_
     refine V7 ?_
     exact ⟨_,_,rfl,ih (_,_,_,_) _ h⟩
    ·refine oW (L8 g11) ?_
     cases h
     exact ⟨_,_,rfl,rfl⟩
   ·refine E8 (eSG (oA 1 rfl ?_))
    rcases o8 h with ⟨r15,g12,h⟩ | ⟨at17,g14,h⟩
    ·refine oV (L8 g12) ?_
     refine oB 3 rfl (eSG (oA 4 rfl ?_))
     obtain ⟨l16,g13,h⟩:=o9 h
     refine oP U0 g13 ?_
     refine oB 2 rfl (eSG (oB 2 rfl ?_))
     cases h
     exact D7 ⟨_,_,_,rfl,rfl,rfl⟩
    ·refine oW (L8 g14) ?_
     cases h
     exact ⟨_,_,rfl,rfl⟩
  ·refine oW (hΦ.A8 g15) ?_
   refine ⟨rfl,rfl,_,_,rfl,?_⟩
   cases h
   exact ⟨_,_,rfl,rfl⟩
 ·refine oW (L8 g16) ?_
  cases h
  exact ⟨_,_,rfl,rfl⟩
theorem a7H (n:Nat) {Φ:j5} (hΦ:Φ.Ok) {d9:List Tok} {at2:Int} {j6:Int} {r:Rs (Nod × Int) (o6 × Int)} (h:a0h n Φ d9 at2 j6 = some r) :
  E env (.call 136 [.ptr 0 0]) (hP C8 d9 at2 j6) = some (a4S d9 at2 j6 r):=by
 unfold a0h at h
 refine K6 rfl Tryz.func136 rfl rfl ?_
 refine eSG (oB 1 rfl (eSG (oA 1 rfl ?_)))
 obtain ⟨at4,g1,h⟩:=o9 h
 refine oV (E5 g1) ?_
 refine oA 1 rfl ?_
 obtain ⟨at5,g2,h⟩:=o9 h
 refine oV (E5 g2) ?_
 refine oB 4 rfl (eSG (oA 1 rfl ?_))
 rcases o8 h with ⟨at6,g3,h⟩ | ⟨⟨at23,at24⟩,g13,h⟩
 ·refine oV (o7 g3) ?_
  refine D5 (eSG (oA 1 rfl ?_))
  rcases o8 h with ⟨⟨r7,at8⟩,g4,h⟩ | ⟨⟨at21,at22⟩,g12,h⟩
  ·refine oV (a2k g4) ?_
   refine oB 2 rfl (eSG (oA 1 rfl ?_))
   rcases o8 h with ⟨⟨r9,at10⟩,g5,h⟩ | ⟨⟨at19,at20⟩,g11,h⟩
   ·obtain ⟨r9_0,r9_1,r9_2,r9_3⟩:=r9
    refine oV (a2l g5) ?_
    refine oB 2 rfl (eSG (oA 1 rfl ?_))
    rcases o8 h with ⟨at11,g6,h⟩ | ⟨⟨at17,at18⟩,g10,h⟩
    ·refine oV (I6 g6) ?_
     refine D5 (eSG (oA 1 rfl ?_))
     rcases o8 h with ⟨⟨r12,at13⟩,g7,h⟩ | ⟨⟨e15,at16⟩,g9,h⟩
     ·refine oV (hΦ.N7 g7) ?_
      refine oB 2 rfl (eSG (oA 4 rfl ?_))
      obtain ⟨l14,g8,h⟩:=o9 h
      refine oP U0 g8 ?_
      refine oB 2 rfl (eSG (oB 2 rfl ?_))
      cases h
      exact D7 ⟨_,_,_,rfl,rfl,rfl⟩
     ·refine oW (hΦ.N7 g9) ?_
      cases h
      exact ⟨_,_,rfl,rfl⟩
    ·refine oW (I6 g10) ?_
     cases h
     exact ⟨_,_,rfl,rfl⟩
   ·refine oW (a2l g11) ?_
    cases h
    exact ⟨_,_,rfl,rfl⟩
  ·refine oW (a2k g12) ?_
   cases h
   exact ⟨_,_,rfl,rfl⟩
 ·refine oW (o7 g13) ?_
  cases h
  exact ⟨_,_,rfl,rfl⟩
theorem a9b (n:Nat) {Φ:j5} (hΦ:Φ.Ok) {a1p:Nod} {a0W:List J4} {P5:List Tok} {at4:Int} {a2t:Int} {r:Rs (Nod × Int) (o6 × Int)} (h:a1u n Φ a1p a0W P5 at4 a2t = some r) :
  E env (.call 115 [.ptr 0 0,.agg (c0 a1p.op a1p.s a1p.n a1p.t.kind a1p.t.name a1p.t.n (.sl p9 a1p.t.args) (.sl p9 a1p.ts) (.sl F6 a1p.l) a1p.at_),.sl a1U a0W]) (hP C8 P5 at4 a2t) = some (a2g a1p a0W P5 at4 a2t r):=by
 unfold a1u at h
 obtain ⟨first1_0,first1_1,first1_2,⟨first1_3,first1_4,first1_5,first1_6⟩,first1_7,first1_8,first1_9⟩:=a1p
 refine K6 rfl Tryz.func115 rfl rfl ?_
 refine eSG (oB 2 rfl (eSG (oB 3 rfl ?_)))
 obtain ⟨y1,g2,h⟩:=R6 h
 refine U2 (KR:=fun r=>a2E env 115 1 Tryz.f115.results.toList (a2g (Nod.mk first1_0 first1_1 first1_2 (Typ.mk first1_3 first1_4 first1_5 first1_6) first1_7 first1_8 first1_9) a0W P5 at4 a2t r)) y1 (fun z24=>[(6,.ptr 1 0),(7,.ptr 2 0)]) (fun z24=>[(0,.row [.sl C8 P5,.i z24.1,.i a2t]),(1,.row [.i 0,.str [],.i 0,.i 0,.str [],.i 0,.st 3 p9 ([]:List Typ),.st 4 p9 ([]:List Typ),.st 5 F6 ([]:List Nod),.i 0]),(2,.row (c0 z24.2.op z24.2.s z24.2.n z24.2.t.kind z24.2.t.name z24.2.t.n (.sl p9 z24.2.t.args) (.sl p9 z24.2.ts) (.sl F6 z24.2.l) z24.2.at_)),(3,.tip 0 0),(4,.tip 0 0),(5,.tip 0 0)]) rfl ?_ (fun z24 hx=>?_) (fun r res hz hr hn=>?_)
 ·replace h:=g2
  clear g2
  refine eSG (oB 3 rfl ?_)
  refine F9 ?_
  refine Y1 rfl ?_
  revert y1
  refine a0x (fun m (x:Int × Int × Nod)=>L6 n Φ a0W a2t P5 m x.1 x.2.1 x.2.2) (fun x=>[(0,.ptr 0 0),(2,.sl a1U a0W),(6,.ptr 1 0),(7,.ptr 2 0),(14,.i (List.length a0W:Int)),(15,.i x.1)]) (fun x=>[(0,.row [.sl C8 P5,.i x.2.1,.i a2t]),(1,.row [.i 0,.str [],.i 0,.i 0,.str [],.i 0,.st 3 p9 ([]:List Typ),.st 4 p9 ([]:List Typ),.st 5 F6 ([]:List Nod),.i 0]),(2,.row (c0 x.2.2.op x.2.2.s x.2.2.n x.2.2.t.kind x.2.2.t.name x.2.2.t.n (.sl p9 x.2.2.t.args) (.sl p9 x.2.2.ts) (.sl F6 x.2.2.l) x.2.2.at_)),(3,.tip 0 0),(4,.tip 0 0),(5,.tip 0 0)]) _ (fun _=>rfl) (fun m3 x y ih h=>?_) n (0,at4,(Nod.mk first1_0 first1_1 first1_2 (Typ.mk first1_3 first1_4 first1_5 first1_6) first1_7 first1_8 first1_9))
  obtain ⟨x545,b8a,n547⟩:=x
  obtain ⟨n547_0,n547_1,n547_2,⟨n547_3,n547_4,n547_5,n547_6⟩,n547_7,n547_8,n547_9⟩:=n547
  replace h:L6 n Φ a0W a2t P5 (m3 + 1) x545 b8a (Nod.mk n547_0 n547_1 n547_2 (Typ.mk n547_3 n547_4 n547_5 n547_6) n547_7 n547_8 n547_9) = some y:=h
  rw [L6] at h
  refine eSG (oB 1 rfl (H8 ?_))
  refine eI rfl h (fun h=>?_) fun h=>?_
  ·refine E8 ?_
   obtain ⟨y4,g5,h⟩:=a3o h
   refine U2 (KR:=fun r=>a2E env 115 1 Tryz.f115.results.toList (a2g (Nod.mk first1_0 first1_1 first1_2 (Typ.mk first1_3 first1_4 first1_5 first1_6) first1_7 first1_8 first1_9) a0W P5 at4 a2t r)) y4 (fun z23=>[(0,.ptr 0 0),(2,.sl a1U a0W),(6,.ptr 1 0),(7,.ptr 2 0),(14,.i (List.length a0W:Int)),(15,.i z23.1)]) (fun z23=>[(0,.row [.sl C8 P5,.i z23.2.1,.i a2t]),(1,.row [.i 0,.str [],.i 0,.i 0,.str [],.i 0,.st 3 p9 ([]:List Typ),.st 4 p9 ([]:List Typ),.st 5 F6 ([]:List Nod),.i 0]),(2,.row (c0 z23.2.2.op z23.2.2.s z23.2.2.n z23.2.2.t.kind z23.2.2.t.name z23.2.2.t.n (.sl p9 z23.2.2.t.args) (.sl p9 z23.2.2.ts) (.sl F6 z23.2.2.l) z23.2.2.at_)),(3,.tip 0 0),(4,.tip 0 0),(5,.tip 0 0)]) rfl ?_ (fun z23 hx=>?_) (fun r res hz hr hn=>?_)
   ·replace h:=g5
    clear g5
    refine F9 ?_
    refine eSG (oB 2 rfl (eSG (oB 6 rfl ?_)))
    refine F9 ?_
    refine Y1 rfl ?_
    revert y4
    refine a0x (fun m (x:Int × Int × Int × Nod)=>Q6 n Φ a2t a0W P5 m x.1 x.2.1 x.2.2.1 x.2.2.2) (fun x=>[(0,.ptr 0 0),(2,.sl a1U a0W),(6,.ptr 1 0),(7,.ptr 2 0),(9,.i x.1),(14,.i (List.length a0W:Int)),(15,.i x.2.1)]) (fun x=>[(0,.row [.sl C8 P5,.i x.2.2.1,.i a2t]),(1,.row [.i 0,.str [],.i 0,.i 0,.str [],.i 0,.st 3 p9 ([]:List Typ),.st 4 p9 ([]:List Typ),.st 5 F6 ([]:List Nod),.i 0]),(2,.row (c0 x.2.2.2.op x.2.2.2.s x.2.2.2.n x.2.2.2.t.kind x.2.2.2.t.name x.2.2.2.t.n (.sl p9 x.2.2.2.t.args) (.sl p9 x.2.2.2.ts) (.sl F6 x.2.2.2.l) x.2.2.2.at_)),(3,.tip 0 0),(4,.tip 0 0),(5,.tip 0 0)]) _ (fun _=>rfl) (fun m6 x y ih h=>?_) n ((w64 ((w64 ((List.length a0W:Int) - 1)) - x545)),x545,b8a,(Nod.mk n547_0 n547_1 n547_2 (Typ.mk n547_3 n547_4 n547_5 n547_6) n547_7 n547_8 n547_9))
    obtain ⟨k553,x554,b2g,n556⟩:=x
    obtain ⟨n556_0,n556_1,n556_2,⟨n556_3,n556_4,n556_5,n556_6⟩,n556_7,n556_8,n556_9⟩:=n556
    replace h:Q6 n Φ a2t a0W P5 (m6 + 1) k553 x554 b2g (Nod.mk n556_0 n556_1 n556_2 (Typ.mk n556_3 n556_4 n556_5 n556_6) n556_7 n556_8 n556_9) = some y:=h
    rw [Q6] at h
    refine H8 ?_
    obtain ⟨y6,g7,h⟩:=o9 h
    refine a15 [(0,.ptr 0 0),(2,.sl a1U a0W),(6,.ptr 1 0),(7,.ptr 2 0),(9,.i k553),(14,.i (List.length a0W:Int)),(15,.i x554),(65,.bool y6)] [(0,.row [.sl C8 P5,.i b2g,.i a2t]),(1,.row [.i 0,.str [],.i 0,.i 0,.str [],.i 0,.st 3 p9 ([]:List Typ),.st 4 p9 ([]:List Typ),.st 5 F6 ([]:List Nod),.i 0]),(2,.row (c0 n556_0 n556_1 n556_2 n556_3 n556_4 n556_5 (.sl p9 n556_6) (.sl p9 n556_7) (.sl F6 n556_8) n556_9)),(3,.tip 0 0),(4,.tip 0 0),(5,.tip 0 0)] rfl ?_ ?_
    ·replace h:=g7
     clear g7
     refine u6 (oA 11 rfl ?_)
     refine M9 rfl rfl rfl (fun g8=>?_) (fun g8=>?_)
     ·replace h:=a2I h g8
      refine oA 8 rfl ?_
      obtain ⟨x6,g9,h⟩:=o9 h
      refine a3E a8n g9 rfl rfl rfl rfl rfl rfl rfl rfl ?_
      refine oA 5 rfl ?_
      refine M9 rfl rfl rfl (fun g10=>?_) (fun g10=>?_)
      ·replace h:=a2I h g10
       refine oA 2 rfl ?_
       obtain ⟨x7,g11,h⟩:=o9 h
       refine a3E a7c g11 rfl rfl rfl rfl rfl rfl rfl rfl ?_
       refine oA 10 rfl ?_
       obtain ⟨x8,g12,h⟩:=o9 h
       refine a3E a8n g12 rfl rfl rfl rfl rfl rfl rfl rfl ?_
       refine oA 2 rfl ?_
       obtain ⟨r9,g13,h⟩:=o9 h
       refine a0t rfl rfl rfl rfl rfl (a3e g13) rfl ?_
       refine oB 1 rfl ?_
       cases h
       exact rfl
      ·replace h:=a2H h g10
       refine oB 18 rfl ?_
       cases h
       exact rfl
     ·replace h:=a2H h g8
      refine oB 32 rfl ?_
      cases h
      exact rfl
    ·obtain ⟨x557,rfl⟩:∃ q,q = y6:=⟨_,rfl⟩
     refine eI rfl h (fun h=>?_) fun h=>?_
     ·refine E8 ?_
      refine F9 ?_
      refine H8 ?_
      refine Q0 [2,0,0] rfl ?_
      refine oC rfl rfl (oC rfl rfl (oC rfl rfl (oC rfl rfl (oC rfl rfl (oC rfl rfl (oC rfl rfl (oC rfl rfl (K3 rfl ?_))))))))
      obtain ⟨x10,g15,h⟩:=o9 h
      refine a3E a8n g15 rfl rfl rfl rfl rfl rfl rfl rfl ?_
      refine D5 (oC rfl rfl (oC rfl rfl (oC rfl rfl (oC rfl rfl (K3 rfl ?_)))))
      refine oD ?_
      refine D5 (oC rfl rfl (oC rfl rfl ?_))
      refine a0X ?_
      refine ⟨rfl,?_⟩
      refine eSG (oB 8 rfl (H8 ?_))
      refine Q0 [] rfl ?_
      refine oC rfl rfl (oC rfl rfl (oC rfl rfl (oC rfl rfl (oC rfl rfl (K3 rfl ?_)))))
      obtain ⟨l11,g16,h⟩:=o9 h
      refine os_subL a7c g16 rfl rfl rfl rfl rfl rfl rfl rfl rfl rfl rfl rfl ?_
      refine D5 (K3 rfl ?_)
      rcases o8 h with ⟨⟨r12,at13⟩,g17,h⟩ | ⟨⟨e19,at20⟩,g22,h⟩
      ·obtain ⟨r12_0,r12_1,r12_2,⟨r12_3,r12_4,r12_5,r12_6⟩,r12_7,r12_8,r12_9⟩:=r12
       refine oV (hΦ.I9 g17) ?_
       refine D5 (K3 rfl ?_)
       rcases o8 h with ⟨⟨r14,at15⟩,g18,h⟩ | ⟨⟨e17,at18⟩,g21,h⟩
       ·obtain ⟨r14_0,r14_1,r14_2,⟨r14_3,r14_4,r14_5,r14_6⟩,r14_7,r14_8,r14_9⟩:=r14
        refine oV (hΦ.O4 g18) ?_
        refine D5 (oC rfl rfl (oC rfl rfl ?_))
        refine a0X ?_
        refine ⟨rfl,?_⟩
        refine eSG (oB 5 rfl (eSG (oB 2 rfl (eSG (oA 2 rfl ?_)))))
        obtain ⟨x16,g19,h⟩:=o9 h
        refine a3E a7c g19 rfl rfl rfl rfl rfl rfl rfl rfl ?_
        refine oB 2 rfl ?_
        refine eI rfl h (fun h=>?_) fun h=>?_
        ·refine V7 ?_
         cases h
         exact ⟨_,rfl,rfl⟩
        ·refine E8 ?_
         exact ⟨_,_,rfl,ih (_,_,_,_) _ h⟩
       ·refine oW (hΦ.O4 g21) ?_
        refine ⟨rfl,rfl,_,_,rfl,?_⟩
        cases h
        exact ⟨_,rfl,_,_,rfl,rfl⟩
      ·refine oW (hΦ.I9 g22) ?_
       refine ⟨rfl,rfl,_,_,rfl,?_⟩
       cases h
       exact ⟨_,rfl,_,_,rfl,rfl⟩
     ·refine V7 ?_
      cases h
      exact ⟨_,rfl,rfl⟩
   ·subst hx
    obtain ⟨x562,at563,n564⟩:=z23
    obtain ⟨n564_0,n564_1,n564_2,⟨n564_3,n564_4,n564_5,n564_6⟩,n564_7,n564_8,n564_9⟩:=n564
    refine u6 (oB 2 rfl ?_)
    exact ⟨_,_,rfl,ih (_,_,_) _ h⟩
   ·subst hz
    rcases res with ⟨_ | _ | _ | _,_,_⟩ <;> first | exact absurd rfl hn | exact hr.elim | (cases h; exact ⟨_,rfl,hr⟩)
  ·refine V7 ?_
   cases h
   exact ⟨_,rfl,rfl⟩
 ·subst hx
  obtain ⟨at568,n569⟩:=z24
  obtain ⟨n569_0,n569_1,n569_2,⟨n569_3,n569_4,n569_5,n569_6⟩,n569_7,n569_8,n569_9⟩:=n569
  refine eSG (oB 2 rfl ?_)
  cases h
  exact D7 ⟨_,_,_,rfl,rfl,rfl⟩
 ·subst hz
  rcases res with ⟨_ | _ | _ | _,_,_⟩ <;> first | exact absurd rfl hn | exact hr.elim | (cases h; exact hr)
theorem a6r (n:Nat) {Φ:j5} (hΦ:Φ.Ok) {d9:List Tok} {at2:Int} {j6:Int} {r:Rs (Nod × Int) (o6 × Int)} (h:V5 n Φ d9 at2 j6 = some r) :
  E env (.call 101 [.ptr 0 0]) (hP C8 d9 at2 j6) = some (a1o d9 at2 j6 r):=by
 unfold V5 at h
 refine K6 rfl Tryz.func101 rfl rfl ?_
 refine eSG (oB 1 rfl (eSG (oA 1 rfl ?_)))
 obtain ⟨at4,g1,h⟩:=o9 h
 refine oV (E5 g1) ?_
 refine oB 2 rfl (eSG (oA 1 rfl ?_))
 rcases o8 h with ⟨at5,g2,h⟩ | ⟨⟨at27,at28⟩,g23,h⟩
 ·refine oV (I6 g2) ?_
  refine D5 (eSG (oA 1 rfl ?_))
  rcases o8 h with ⟨⟨r6,at7⟩,g3,h⟩ | ⟨⟨e25,at26⟩,g22,h⟩
  ·obtain ⟨r6_0,r6_1,r6_2,⟨r6_3,r6_4,r6_5,r6_6⟩,r6_7,r6_8,r6_9⟩:=r6
   refine oV (hΦ.A8 g3) ?_
   refine oB 3 rfl (H8 ?_)
   refine Q0 [256] rfl ?_
   refine oC rfl rfl (oC rfl rfl (oC rfl rfl (K3 rfl ?_)))
   rcases o8 h with ⟨⟨r8,at9⟩,g4,h⟩ | ⟨⟨e23,at24⟩,g21,h⟩
   ·obtain ⟨r8_0,r8_1,r8_2,⟨r8_3,r8_4,r8_5,r8_6⟩,r8_7,r8_8,r8_9⟩:=r8
    refine oV (hΦ.F8 g4) ?_
    refine D5 (oC rfl rfl (K3 rfl ?_))
    obtain ⟨l10,g5,h⟩:=o9 h
    refine a6L U0 g5 rfl rfl rfl rfl (.inr rfl) rfl rfl rfl rfl rfl rfl rfl rfl rfl rfl (a7f (a1Y rfl) rfl) rfl rfl rfl ?_
    refine D5 (oC rfl rfl (oC rfl rfl ?_))
    refine a0X ?_
    refine ⟨rfl,?_⟩
    obtain ⟨y6,g7,h⟩:=R6 h
    refine U2 (KR:=fun r=>a2E env 101 1 Tryz.f101.results.toList (a1o d9 at2 j6 r)) y6 (fun z20=>[(2,.ptr 1 0),(3,.ptr 2 0)]) (fun z20=>[(0,.row [.sl C8 d9,.i z20.1,.i j6]),(1,.row [.i 0,.str [],.i 0,.i 0,.str [],.i 0,.st 3 p9 ([]:List Typ),.st 4 p9 ([]:List Typ),.st 5 F6 ([]:List Nod),.i 0]),(2,.row [.i 24,.str [],.i 0,.i 0,.str [],.i 0,.sl p9 ([]:List Typ),.st 6 p9 ([]:List Typ),.st 7 F6 z20.2,.i at4]),(3,.tip 0 0),(4,.tip 0 0),(5,.tip 0 0),(6,.tip 0 0),(7,.tip (tpe 10 (List.length z20.2)) (List.length z20.2))]) rfl ?_ (fun z20 hx=>?_) (fun r res hz hr hn=>?_)
    ·replace h:=g7
     clear g7
     refine eSG (oA 1 rfl ?_)
     obtain ⟨⟨r11,at12⟩,g8,h⟩:=o9 h
     refine oV (J9 g8) ?_
     refine D5 ?_
     refine eI rfl h (fun h=>?_) fun h=>?_
     ·refine eSG (oB 1 rfl ?_)
      obtain ⟨y10,g11,h⟩:=a3o h
      refine U2 (KR:=fun r=>a2E env 101 1 Tryz.f101.results.toList (a1o d9 at2 j6 r)) y10 (fun z19=>[(2,.ptr 1 0),(3,.ptr 2 0),(4,.ptr 3 0)]) (fun z19=>[(0,.row [.sl C8 d9,.i z19.1,.i j6]),(1,.row [.i 0,.str [],.i 0,.i 0,.str [],.i 0,.st 4 p9 ([]:List Typ),.st 5 p9 ([]:List Typ),.st 6 F6 ([]:List Nod),.i 0]),(2,.row [.i 24,.str [],.i 0,.i 0,.str [],.i 0,.sl p9 ([]:List Typ),.st 7 p9 ([]:List Typ),.st 8 F6 l10,.i at4]),(3,.row (c0 z19.2.op z19.2.s z19.2.n z19.2.t.kind z19.2.t.name z19.2.t.n (.sl p9 z19.2.t.args) (.sl p9 z19.2.ts) (.sl F6 z19.2.l) z19.2.at_)),(4,.tip 0 0),(5,.tip 0 0),(6,.tip 0 0),(7,.tip 0 0),(8,.tip (tpe 10 (List.length l10)) (List.length l10))]) rfl ?_ (fun z19 hx=>?_) (fun r res hz hr hn=>?_)
      ·replace h:=g11
       clear g11
       refine eSG (oA 1 rfl ?_)
       obtain ⟨r13,g12,h⟩:=o9 h
       refine oV (G6 g12) ?_
       refine D5 ?_
       refine eI rfl h (fun h=>?_) fun h=>?_
       ·refine u6 (oA 1 rfl ?_)
        rcases o8 h with ⟨⟨r14,at15⟩,g14,h⟩ | ⟨⟨e16,at17⟩,g15,h⟩
        ·obtain ⟨r14_0,r14_1,r14_2,⟨r14_3,r14_4,r14_5,r14_6⟩,r14_7,r14_8,r14_9⟩:=r14
         refine oV (hΦ.M7 g14) ?_
         refine oB 1 rfl ?_
         cases h
         exact ⟨_,rfl,rfl⟩
        ·refine oW (hΦ.M7 g15) ?_
         cases h
         exact ⟨_,rfl,_,_,rfl,rfl⟩
       ·refine u6 (oA 1 rfl ?_)
        rcases o8 h with ⟨⟨r18,at19⟩,g16,h⟩ | ⟨⟨e20,at21⟩,g17,h⟩
        ·obtain ⟨r18_0,r18_1,r18_2,⟨r18_3,r18_4,r18_5,r18_6⟩,r18_7,r18_8,r18_9⟩:=r18
         refine oV (hΦ.F8 g16) ?_
         refine oB 1 rfl ?_
         cases h
         exact ⟨_,rfl,rfl⟩
        ·refine oW (hΦ.F8 g17) ?_
         cases h
         exact ⟨_,rfl,_,_,rfl,rfl⟩
      ·subst hx
       obtain ⟨a6C,n518⟩:=z19
       obtain ⟨n518_0,n518_1,n518_2,⟨n518_3,n518_4,n518_5,n518_6⟩,n518_7,n518_8,n518_9⟩:=n518
       refine u6 (oA 4 rfl ?_)
       obtain ⟨l22,g18,h⟩:=o9 h
       refine oP U0 g18 ?_
       refine oB 2 rfl ?_
       cases h
       exact ⟨_,rfl,rfl⟩
      ·subst hz
       rcases res with ⟨_ | _ | _ | _,_,_⟩ <;> first | exact absurd rfl hn | exact hr.elim | (cases h; exact ⟨_,rfl,hr⟩)
     ·refine E8 ?_
      cases h
      exact ⟨_,rfl,rfl⟩
    ·subst hx
     obtain ⟨b2d,l520⟩:=z20
     refine eSG (oB 2 rfl ?_)
     cases h
     exact D7 ⟨_,_,_,rfl,rfl,rfl⟩
    ·subst hz
     rcases res with ⟨_ | _ | _ | _,_,_⟩ <;> first | exact absurd rfl hn | exact hr.elim | (cases h; exact hr)
   ·refine oW (hΦ.F8 g21) ?_
    refine ⟨rfl,rfl,_,_,rfl,?_⟩
    cases h
    exact ⟨_,_,rfl,rfl⟩
  ·refine oW (hΦ.A8 g22) ?_
   cases h
   exact ⟨_,_,rfl,rfl⟩
 ·refine oW (I6 g23) ?_
  cases h
  exact ⟨_,_,rfl,rfl⟩
theorem a9e (n:Nat) {Φ:j5} (hΦ:Φ.Ok) {d9:List Tok} {at2:Int} {j6:Int} {r:Rs (Nod × Int) (o6 × Int)} (h:a0L n Φ d9 at2 j6 = some r) :
  E env (.call 102 [.ptr 0 0]) (hP C8 d9 at2 j6) = some (a2j d9 at2 j6 r):=by
 unfold a0L at h
 refine K6 rfl Tryz.func102 rfl rfl ?_
 refine eSG (oB 1 rfl (eSG (oA 1 rfl ?_)))
 obtain ⟨at4,g1,h⟩:=o9 h
 refine oV (E5 g1) ?_
 refine oB 2 rfl (eSG (oA 1 rfl ?_))
 rcases o8 h with ⟨at5,g2,h⟩ | ⟨⟨at38,at39⟩,g32,h⟩
 ·refine oV (I6 g2) ?_
  refine D5 (eSG (oA 1 rfl ?_))
  rcases o8 h with ⟨⟨r6,at7⟩,g3,h⟩ | ⟨⟨e36,at37⟩,g31,h⟩
  ·obtain ⟨r6_0,r6_1,r6_2,⟨r6_3,r6_4,r6_5,r6_6⟩,r6_7,r6_8,r6_9⟩:=r6
   refine oV (hΦ.A8 g3) ?_
   refine oB 3 rfl (eSG (oA 1 rfl ?_))
   rcases o8 h with ⟨at8,g4,h⟩ | ⟨⟨at34,at35⟩,g30,h⟩
   ·refine oV (o7 g4) ?_
    refine D5 ?_
    obtain ⟨y5,g6,h⟩:=R6 h
    refine U2 (KR:=fun r=>a2E env 102 1 Tryz.f102.results.toList (a2j d9 at2 j6 r)) y5 (fun z29=>[(0,.ptr 0 0),(2,.ptr 1 0),(3,.ptr 2 0)]) (fun z29=>[(0,.row [.sl C8 d9,.i z29.1,.i j6]),(1,.row [.i 0,.str [],.i 0,.i 0,.str [],.i 0,.st 3 p9 ([]:List Typ),.st 4 p9 ([]:List Typ),.st 5 F6 ([]:List Nod),.i 0]),(2,.row [.i 26,.str [],.i 0,.i 0,.str [],.i 0,.sl p9 ([]:List Typ),.st 6 p9 ([]:List Typ),.st 7 F6 z29.2,.i at4]),(3,.tip 0 0),(4,.tip 0 0),(5,.tip 0 0),(6,.tip 0 0),(7,.tip (tpe 10 (List.length z29.2)) (List.length z29.2))]) rfl ?_ (fun z29 hx=>?_) (fun r res hz hr hn=>?_)
    ·replace h:=g6
     clear g6
     refine F9 ?_
     refine Y1 rfl ?_
     revert y5
     refine a0x (fun m (x:Int × List Nod)=>V9 n Φ j6 d9 m x.1 x.2) (fun x=>[(0,.ptr 0 0),(2,.ptr 1 0),(3,.ptr 2 0)]) (fun x=>[(0,.row [.sl C8 d9,.i x.1,.i j6]),(1,.row [.i 0,.str [],.i 0,.i 0,.str [],.i 0,.st 3 p9 ([]:List Typ),.st 4 p9 ([]:List Typ),.st 5 F6 ([]:List Nod),.i 0]),(2,.row [.i 26,.str [],.i 0,.i 0,.str [],.i 0,.sl p9 ([]:List Typ),.st 6 p9 ([]:List Typ),.st 7 F6 x.2,.i at4]),(3,.tip 0 0),(4,.tip 0 0),(5,.tip 0 0),(6,.tip 0 0),(7,.tip (tpe 10 (List.length x.2)) (List.length x.2))]) _ (fun _=>rfl) (fun m5 x y ih h=>?_) n (at8,([(Nod.mk r6_0 r6_1 r6_2 (Typ.mk r6_3 r6_4 r6_5 r6_6) r6_7 r6_8 r6_9)]:List Nod))
     obtain ⟨b78,l516⟩:=x
     rw [V9] at h
     refine H8 (eSG (oA 1 rfl ?_))
     obtain ⟨r9,g7,h⟩:=o9 h
     refine oV (G6 g7) ?_
     refine D5 ?_
     refine eI rfl h (fun h=>?_) fun h=>?_
     ·refine E8 ?_
      refine F9 ?_
      refine eSG (oA 1 rfl ?_)
      obtain ⟨at10,g9,h⟩:=o9 h
      refine oV (E5 g9) ?_
      refine oB 2 rfl (eSG (oB 8 rfl (eSG (oA 1 rfl ?_))))
      rcases o8 h with ⟨⟨r11,at12⟩,g10,h⟩ | ⟨⟨at19,at20⟩,g15,h⟩
      ·obtain ⟨r11_0,r11_1,r11_2,⟨r11_3,r11_4,r11_5,r11_6⟩,r11_7,r11_8,r11_9⟩:=r11
       refine oV (a5l g10) ?_
       refine oB 3 rfl (H8 ?_)
       refine Q0 [320] rfl ?_
       refine oC rfl rfl (oC rfl rfl (oC rfl rfl (K3 rfl ?_)))
       rcases o8 h with ⟨⟨r13,at14⟩,g11,h⟩ | ⟨⟨e17,at18⟩,g14,h⟩
       ·obtain ⟨r13_0,r13_1,r13_2,⟨r13_3,r13_4,r13_5,r13_6⟩,r13_7,r13_8,r13_9⟩:=r13
        refine oV (hΦ.F8 g11) ?_
        refine D5 (oC rfl rfl (K3 rfl ?_))
        obtain ⟨l15,g12,h⟩:=o9 h
        refine a6L U0 g12 rfl rfl rfl rfl (.inr rfl) rfl rfl rfl rfl rfl rfl rfl rfl rfl rfl (a7f (a1Y rfl) rfl) rfl rfl rfl ?_
        refine D5 (oC rfl rfl (oC rfl rfl ?_))
        refine a0X ?_
        refine ⟨rfl,?_⟩
        refine u6 (oA 4 rfl ?_)
        obtain ⟨l16,g13,h⟩:=o9 h
        refine oP U0 g13 ?_
        refine oB 2 rfl ?_
        exact ⟨_,_,rfl,ih (_,_) _ h⟩
       ·refine oW (hΦ.F8 g14) ?_
        refine ⟨rfl,rfl,_,_,rfl,?_⟩
        cases h
        exact ⟨_,rfl,_,_,rfl,rfl⟩
      ·refine oW (a5l g15) ?_
       cases h
       exact ⟨_,rfl,_,_,rfl,rfl⟩
     ·refine V7 ?_
      cases h
      exact ⟨_,rfl,rfl⟩
    ·subst hx
     obtain ⟨b0p,l526⟩:=z29
     refine eSG (oA 1 rfl ?_)
     obtain ⟨at21,g16,h⟩:=o9 h
     refine oV (E5 g16) ?_
     refine oA 1 rfl ?_
     obtain ⟨at22,g17,h⟩:=o9 h
     refine oV (E5 g17) ?_
     refine oB 4 rfl ?_
     obtain ⟨y18,g19,h⟩:=R6 h
     refine U2 (KR:=fun r=>a2E env 102 1 Tryz.f102.results.toList (a2j d9 at2 j6 r)) y18 (fun z28=>[(0,.ptr 0 0),(2,.ptr 1 0),(3,.ptr 2 0)]) (fun z28=>[(0,.row [.sl C8 d9,.i z28.1,.i j6]),(1,.row [.i 0,.str [],.i 0,.i 0,.str [],.i 0,.st 3 p9 ([]:List Typ),.st 4 p9 ([]:List Typ),.st 5 F6 ([]:List Nod),.i 0]),(2,.row [.i 26,.str [],.i 0,.i 0,.str [],.i 0,.sl p9 ([]:List Typ),.st 6 p9 ([]:List Typ),.st 7 F6 z28.2,.i at4]),(3,.tip 0 0),(4,.tip 0 0),(5,.tip 0 0),(6,.tip 0 0),(7,.tip (tpe 10 (List.length z28.2)) (List.length z28.2))]) rfl ?_ (fun z28 hx=>?_) (fun r res hz hr hn=>?_)
     ·replace h:=g19
      clear g19
      refine eSG (oA 1 rfl ?_)
      obtain ⟨⟨r23,at24⟩,g20,h⟩:=o9 h
      refine oV (J9 g20) ?_
      refine D5 ?_
      refine eI rfl h (fun h=>?_) fun h=>?_
      ·refine eSG (oB 4 rfl (H8 ?_))
       refine Q0 [384] rfl ?_
       refine oC rfl rfl (oC rfl rfl (oC rfl rfl (K3 rfl ?_)))
       rcases o8 h with ⟨⟨r25,at26⟩,g22,h⟩ | ⟨⟨e29,at30⟩,g25,h⟩
       ·obtain ⟨r25_0,r25_1,r25_2,⟨r25_3,r25_4,r25_5,r25_6⟩,r25_7,r25_8,r25_9⟩:=r25
        refine oV (hΦ.F8 g22) ?_
        refine D5 (oC rfl rfl (K3 rfl ?_))
        obtain ⟨l27,g23,h⟩:=o9 h
        refine a6L U0 g23 rfl rfl rfl rfl (.inr rfl) rfl rfl rfl rfl rfl rfl rfl rfl rfl rfl (a7f (a1Y rfl) rfl) rfl rfl rfl ?_
        refine D5 (oC rfl rfl (oC rfl rfl ?_))
        refine a0X ?_
        refine ⟨rfl,?_⟩
        refine u6 (oA 4 rfl ?_)
        obtain ⟨l28,g24,h⟩:=o9 h
        refine oP U0 g24 ?_
        refine oB 2 rfl ?_
        cases h
        exact ⟨_,rfl,rfl⟩
       ·refine oW (hΦ.F8 g25) ?_
        refine ⟨rfl,rfl,_,_,rfl,?_⟩
        cases h
        exact ⟨_,rfl,_,_,rfl,rfl⟩
      ·refine E8 ?_
       cases h
       exact ⟨_,rfl,rfl⟩
     ·subst hx
      obtain ⟨a6C,l518⟩:=z28
      refine eSG (oA 1 rfl ?_)
      rcases o8 h with ⟨at31,g26,h⟩ | ⟨⟨at32,at33⟩,g27,h⟩
      ·refine oV (o7 g26) ?_
       refine D5 (eSG (oB 2 rfl ?_))
       cases h
       exact D7 ⟨_,_,_,rfl,rfl,rfl⟩
      ·refine oW (o7 g27) ?_
       cases h
       exact ⟨_,_,rfl,rfl⟩
     ·subst hz
      rcases res with ⟨_ | _ | _ | _,_,_⟩ <;> first | exact absurd rfl hn | exact hr.elim | (cases h; exact hr)
    ·subst hz
     rcases res with ⟨_ | _ | _ | _,_,_⟩ <;> first | exact absurd rfl hn | exact hr.elim | (cases h; exact hr)
   ·refine oW (o7 g30) ?_
    cases h
    exact ⟨_,_,rfl,rfl⟩
  ·refine oW (hΦ.A8 g31) ?_
   cases h
   exact ⟨_,_,rfl,rfl⟩
 ·refine oW (I6 g32) ?_
  cases h
  exact ⟨_,_,rfl,rfl⟩
theorem b0i (n:Nat) {Φ:j5} (hΦ:Φ.Ok) {op1:Int} {D8:List Tok} {at3:Int} {J7:Int} {r:Rs (List Nod × Int × Int) (o6 × Int)} (h:a0p n Φ op1 D8 at3 J7 = some r) :
  E env (.call 103 [.ptr 0 0,.i op1]) (hP C8 D8 at3 J7) = some (a6s op1 D8 at3 J7 r):=by
 unfold a0p at h
 refine K6 rfl Tryz.func103 rfl rfl ?_
 refine eSG (oB 1 rfl (eSG (oA 2 rfl ?_)))
 obtain ⟨at5,g1,h⟩:=o9 h
 refine oV (E5 g1) ?_
 refine oB 2 rfl (eSG (oB 8 rfl (eSG (oA 1 rfl ?_))))
 rcases o8 h with ⟨⟨r6,at7⟩,g2,h⟩ | ⟨⟨e8,at9⟩,g3,h⟩
 ·obtain ⟨r6_0,r6_1,r6_2,⟨r6_3,r6_4,r6_5,r6_6⟩,r6_7,r6_8,r6_9⟩:=r6
  refine oV (hΦ.F8 g2) ?_
  refine oB 3 rfl (eSG (oB 2 rfl ?_))
  cases h
  exact D7 ⟨_,_,_,rfl,rfl,rfl⟩
 ·refine oW (hΦ.F8 g3) ?_
  cases h
  exact ⟨_,_,rfl,rfl⟩
theorem j5.ok:∀ n,(j5.fs n).Ok
 | 0=>⟨(fun h=>by cases h),(fun h=>by cases h),(fun h=>by cases h),(fun h=>by cases h),(fun h=>by cases h),(fun h=>by cases h),(fun h=>by cases h),(fun h=>by cases h),(fun h=>by cases h),(fun h=>by cases h),(fun h=>by cases h),(fun h=>by cases h),(fun h=>by cases h),(fun h=>by cases h),(fun h=>by cases h)⟩
 | n + 1=>⟨(fun h=>a88 n (j5.ok n) h),(fun h=>a6z n (j5.ok n) h),(fun h=>a6M n (j5.ok n) h),(fun h=>a9d n (j5.ok n) h),(fun h=>a9L n (j5.ok n) h),(fun h=>a9g n (j5.ok n) h),(fun h=>a7K n (j5.ok n) h),(fun h=>a9K n (j5.ok n) h),(fun h=>a9J n (j5.ok n) h),(fun h=>a8y n (j5.ok n) h),(fun h=>a7H n (j5.ok n) h),(fun h=>a9b n (j5.ok n) h),(fun h=>a6r n (j5.ok n) h),(fun h=>a9e n (j5.ok n) h),(fun h=>b0i n (j5.ok n) h)⟩
theorem a2C {n:Nat} {d9:List Tok} {at2:Int} {j6:Int} {r:Rs (Nod × Int) (o6 × Int)} (h:F8 n d9 at2 j6 = some r) :
  E env (.call 62 [.ptr 0 0]) (hP C8 d9 at2 j6) = some (a3F d9 at2 j6 r):=(j5.ok n).F8 h
end Go.Proofs.YtlfomdllnidliaaGreatDoor
namespace Go.Proofs.YtlfomdllnidliaaGreatDoor
open Go Go.Vm
theorem a1W {n:Nat} {d9:List Tok} {at2:Int} {j6:Int} {r:Rs (Nod × Int) (o6 × Int)} (h:Z8 n d9 at2 j6 = some r) :
  E env (.call 27 [.ptr 0 0]) (hP C8 d9 at2 j6) = some (a7I d9 at2 j6 r):=by
 unfold Z8 at h
 refine K6 rfl Tryz.func27 rfl rfl ?_
 refine eSG (oB 1 rfl (eSG (oA 1 rfl ?_)))
 rcases o8 h with ⟨⟨s4,t5,l6,at7,at8⟩,g1,h⟩ | ⟨⟨at14,at15⟩,g5,h⟩
 ·obtain ⟨t5_0,t5_1,t5_2,t5_3⟩:=t5
  refine oV (a1I g1) ?_
  refine oB 2 rfl (eSG (oB 2 rfl (H8 ?_)))
  refine Q0 [256] rfl ?_
  refine oC rfl rfl (oC rfl rfl (oC rfl rfl (K3 rfl ?_)))
  rcases o8 h with ⟨⟨r9,at10⟩,g2,h⟩ | ⟨⟨e12,at13⟩,g4,h⟩
  ·obtain ⟨r9_0,r9_1,r9_2,⟨r9_3,r9_4,r9_5,r9_6⟩,r9_7,r9_8,r9_9⟩:=r9
   refine oV (a2C g2) ?_
   refine D5 (oC rfl rfl (K3 rfl ?_))
   obtain ⟨l11,g3,h⟩:=o9 h
   refine oP U0 g3 ?_
   refine D5 (oC rfl rfl (oC rfl rfl ?_))
   refine a0X ?_
   refine ⟨rfl,?_⟩
   refine eSG (oB 2 rfl ?_)
   cases h
   exact D7 ⟨_,_,_,rfl,rfl,rfl⟩
  ·refine oW (a2C g4) ?_
   refine ⟨rfl,rfl,_,_,rfl,?_⟩
   cases h
   exact ⟨_,_,rfl,rfl⟩
 ·refine oW (a1I g5) ?_
  cases h
  exact ⟨_,_,rfl,rfl⟩
theorem a5D {n:Nat} {d9:List Tok} {at2:Int} {j6:Int} {r:Rs (Nod × Int) (o6 × Int)} (h:a02 n d9 at2 j6 = some r) :
  E env (.call 26 [.ptr 0 0]) (hP C8 d9 at2 j6) = some (a3s d9 at2 j6 r):=by
 unfold a02 at h
 refine K6 rfl Tryz.func26 rfl rfl ?_
 refine eSG (oB 1 rfl (eSG (oA 1 rfl ?_)))
 obtain ⟨at4,g1,h⟩:=o9 h
 refine oV (E5 g1) ?_
 refine oB 2 rfl (eSG (oA 1 rfl ?_))
 rcases o8 h with ⟨at5,g2,h⟩ | ⟨⟨at46,at47⟩,g38,h⟩
 ·refine oV (I6 g2) ?_
  refine D5 (eSG (oA 1 rfl ?_))
  rcases o8 h with ⟨⟨r6,at7⟩,g3,h⟩ | ⟨⟨at44,at45⟩,g37,h⟩
  ·obtain ⟨r6_0,r6_1,r6_2,r6_3⟩:=r6
   refine oV (J6 g3) ?_
   refine oB 2 rfl (eSG (oA 1 rfl ?_))
   rcases o8 h with ⟨at8,g4,h⟩ | ⟨⟨at42,at43⟩,g36,h⟩
   ·refine oV (o7 g4) ?_
    refine D5 (eSG (oA 1 rfl ?_))
    rcases o8 h with ⟨r9,g5,h⟩ | ⟨at41,g35,h⟩
    ·refine oV (F7 g5) ?_
     refine oB 2 rfl (eSG (oA 1 rfl ?_))
     rcases o8 h with ⟨⟨r10,at11⟩,g6,h⟩ | ⟨⟨at39,at40⟩,g34,h⟩
     ·refine oV (a2D g6) ?_
      refine oB 2 rfl (eSG (oA 1 rfl ?_))
      rcases o8 h with ⟨at12,g7,h⟩ | ⟨⟨at37,at38⟩,g33,h⟩
      ·refine oV (o7 g7) ?_
       refine D5 ?_
       obtain ⟨y8,g9,h⟩:=R6 h
       refine U2 (KR:=fun r=>a2E env 26 1 Tryz.f26.results.toList (a3s d9 at2 j6 r)) y8 (fun z32=>[(0,.ptr 0 0),(2,.ptr 1 0),(3,.ptr 2 0)]) (fun z32=>[(0,.row [.sl C8 d9,.i z32.1,.i j6]),(1,.row [.i 0,.str [],.i 0,.i 0,.str [],.i 0,.st 3 p9 ([]:List Typ),.st 4 p9 ([]:List Typ),.st 5 F6 ([]:List Nod),.i 0]),(2,.row (c0 6 r9 0 r6_0 r6_1 r6_2 (.sl p9 r6_3) (.st 6 p9 ([]:List Typ)) (.st 7 F6 z32.2) at4)),(3,.tip 0 0),(4,.tip 0 0),(5,.tip 0 0),(6,.tip 0 0),(7,.tip (tpe 10 (List.length z32.2)) (List.length z32.2))]) rfl ?_ (fun z32 hx=>?_) (fun r res hz hr hn=>?_)
       ·replace h:=g9
        clear g9
        refine F9 ?_
        refine Y1 rfl ?_
        revert y8
        refine a0x (fun m (x:Int × List Nod)=>U7 n j6 d9 m x.1 x.2) (fun x=>[(0,.ptr 0 0),(2,.ptr 1 0),(3,.ptr 2 0)]) (fun x=>[(0,.row [.sl C8 d9,.i x.1,.i j6]),(1,.row [.i 0,.str [],.i 0,.i 0,.str [],.i 0,.st 3 p9 ([]:List Typ),.st 4 p9 ([]:List Typ),.st 5 F6 ([]:List Nod),.i 0]),(2,.row (c0 6 r9 0 r6_0 r6_1 r6_2 (.sl p9 r6_3) (.st 6 p9 ([]:List Typ)) (.st 7 F6 x.2) at4)),(3,.tip 0 0),(4,.tip 0 0),(5,.tip 0 0),(6,.tip 0 0),(7,.tip (tpe 10 (List.length x.2)) (List.length x.2))]) _ (fun _=>rfl) (fun m8 x y ih h=>?_) n (at12,r10)
        obtain ⟨a3n,a9C⟩:=x
        rw [U7] at h
        refine H8 (eSG (oA 1 rfl ?_))
        obtain ⟨r13,g10,h⟩:=o9 h
        refine oV (G6 g10) ?_
        refine D5 ?_
        refine eI rfl h (fun h=>?_) fun h=>?_
        ·refine E8 ?_
         refine F9 ?_
         refine eSG (oA 1 rfl ?_)
         obtain ⟨at14,g12,h⟩:=o9 h
         refine oV (E5 g12) ?_
         refine oB 2 rfl (eSG (oB 8 rfl (eSG (oA 1 rfl ?_))))
         rcases o8 h with ⟨r15,g13,h⟩ | ⟨at27,g21,h⟩
         ·refine oV (F7 g13) ?_
          refine oB 2 rfl (eSG (oA 1 rfl ?_))
          rcases o8 h with ⟨at16,g14,h⟩ | ⟨⟨at25,at26⟩,g20,h⟩
          ·refine oV (o7 g14) ?_
           refine D5 (eSG (oA 1 rfl ?_))
           rcases o8 h with ⟨⟨r17,at18⟩,g15,h⟩ | ⟨⟨at23,at24⟩,g19,h⟩
           ·obtain ⟨r17_0,r17_1,r17_2,r17_3⟩:=r17
            refine oV (J6 g15) ?_
            refine oB 2 rfl (eSG (oA 1 rfl ?_))
            rcases o8 h with ⟨at19,g16,h⟩ | ⟨⟨at21,at22⟩,g18,h⟩
            ·refine oV (o7 g16) ?_
             refine D5 (u6 (oA 4 rfl ?_))
             obtain ⟨l20,g17,h⟩:=o9 h
             refine oP U0 g17 ?_
             refine oB 2 rfl ?_
             exact ⟨_,_,rfl,ih (_,_) _ h⟩
            ·refine oW (o7 g18) ?_
             cases h
             exact ⟨_,rfl,_,_,rfl,rfl⟩
           ·refine oW (J6 g19) ?_
            cases h
            exact ⟨_,rfl,_,_,rfl,rfl⟩
          ·refine oW (o7 g20) ?_
           cases h
           exact ⟨_,rfl,_,_,rfl,rfl⟩
         ·refine oW (F7 g21) ?_
          cases h
          exact ⟨_,rfl,_,_,rfl,rfl⟩
        ·refine V7 ?_
         cases h
         exact ⟨_,rfl,rfl⟩
       ·subst hx
        obtain ⟨b2c,l514⟩:=z32
        obtain ⟨y22,g23,h⟩:=R6 h
        refine U2 (KR:=fun r=>a2E env 26 1 Tryz.f26.results.toList (a3s d9 at2 j6 r)) y22 (fun z31=>[(0,.ptr 0 0),(2,.ptr 1 0),(3,.ptr 2 0)]) (fun z31=>[(0,.row [.sl C8 d9,.i z31.1,.i j6]),(1,.row [.i 0,.str [],.i 0,.i 0,.str [],.i 0,.st 3 p9 ([]:List Typ),.st 4 p9 ([]:List Typ),.st 5 F6 ([]:List Nod),.i 0]),(2,.row (c0 6 r9 0 r6_0 r6_1 r6_2 (.sl p9 r6_3) (.st 6 p9 ([]:List Typ)) (.st 7 F6 z31.2) at4)),(3,.tip 0 0),(4,.tip 0 0),(5,.tip 0 0),(6,.tip 0 0),(7,.tip (tpe 10 (List.length z31.2)) (List.length z31.2))]) rfl ?_ (fun z31 hx=>?_) (fun r res hz hr hn=>?_)
        ·replace h:=g23
         clear g23
         refine F9 ?_
         refine Y1 rfl ?_
         revert y22
         refine a0x (fun m (x:Int × List Nod)=>S9 n j6 d9 m x.1 x.2) (fun x=>[(0,.ptr 0 0),(2,.ptr 1 0),(3,.ptr 2 0)]) (fun x=>[(0,.row [.sl C8 d9,.i x.1,.i j6]),(1,.row [.i 0,.str [],.i 0,.i 0,.str [],.i 0,.st 3 p9 ([]:List Typ),.st 4 p9 ([]:List Typ),.st 5 F6 ([]:List Nod),.i 0]),(2,.row (c0 6 r9 0 r6_0 r6_1 r6_2 (.sl p9 r6_3) (.st 6 p9 ([]:List Typ)) (.st 7 F6 x.2) at4)),(3,.tip 0 0),(4,.tip 0 0),(5,.tip 0 0),(6,.tip 0 0),(7,.tip (tpe 10 (List.length x.2)) (List.length x.2))]) _ (fun _=>rfl) (fun m16 x y ih h=>?_) n (b2c,l514)
         obtain ⟨a94,l524⟩:=x
         rw [S9] at h
         refine H8 (eSG (oA 1 rfl ?_))
         obtain ⟨r28,g24,h⟩:=o9 h
         refine oV (G6 g24) ?_
         refine D5 ?_
         refine eI rfl h (fun h=>?_) fun h=>?_
         ·refine E8 ?_
          refine F9 ?_
          refine eSG (oA 1 rfl ?_)
          rcases o8 h with ⟨⟨r29,at30⟩,g26,h⟩ | ⟨⟨e32,at33⟩,g28,h⟩
          ·obtain ⟨r29_0,r29_1,r29_2,⟨r29_3,r29_4,r29_5,r29_6⟩,r29_7,r29_8,r29_9⟩:=r29
           refine oV (a1W g26) ?_
           refine oB 2 rfl (u6 (oA 4 rfl ?_))
           obtain ⟨l31,g27,h⟩:=o9 h
           refine oP U0 g27 ?_
           refine oB 2 rfl ?_
           exact ⟨_,_,rfl,ih (_,_) _ h⟩
          ·refine oW (a1W g28) ?_
           cases h
           exact ⟨_,rfl,_,_,rfl,rfl⟩
         ·refine V7 ?_
          cases h
          exact ⟨_,rfl,rfl⟩
        ·subst hx
         obtain ⟨b3m,l536⟩:=z31
         refine eSG (oA 1 rfl ?_)
         rcases o8 h with ⟨at34,g29,h⟩ | ⟨⟨at35,at36⟩,g30,h⟩
         ·refine oV (o7 g29) ?_
          refine D5 (eSG (oB 2 rfl ?_))
          cases h
          exact D7 ⟨_,_,_,rfl,rfl,rfl⟩
         ·refine oW (o7 g30) ?_
          cases h
          exact ⟨_,_,rfl,rfl⟩
        ·subst hz
         rcases res with ⟨_ | _ | _ | _,_,_⟩ <;> first | exact absurd rfl hn | exact hr.elim | (cases h; exact hr)
       ·subst hz
        rcases res with ⟨_ | _ | _ | _,_,_⟩ <;> first | exact absurd rfl hn | exact hr.elim | (cases h; exact hr)
      ·refine oW (o7 g33) ?_
       cases h
       exact ⟨_,_,rfl,rfl⟩
     ·refine oW (a2D g34) ?_
      cases h
      exact ⟨_,_,rfl,rfl⟩
    ·refine oW (F7 g35) ?_
     cases h
     exact ⟨_,_,rfl,rfl⟩
   ·refine oW (o7 g36) ?_
    cases h
    exact ⟨_,_,rfl,rfl⟩
  ·refine oW (J6 g37) ?_
   cases h
   exact ⟨_,_,rfl,rfl⟩
 ·refine oW (I6 g38) ?_
  cases h
  exact ⟨_,_,rfl,rfl⟩
theorem a2h {n:Nat} {d9:List Tok} {at2:Int} {j6:Int} {r:Rs (List Nod × Int) (o6 × Int)} (h:X9 n d9 at2 j6 = some r) :
  E env (.call 32 [.ptr 0 0]) (hP C8 d9 at2 j6) = some (a3t d9 at2 j6 r):=by
 unfold X9 at h
 refine K6 rfl Tryz.func32 rfl rfl ?_
 refine eSG (oB 1 rfl (eSG (oB 1 rfl (eSG (oA 1 rfl ?_)))))
 rcases o8 h with ⟨at4,g1,h⟩ | ⟨⟨at34,at35⟩,g36,h⟩
 ·refine oV (o7 g1) ?_
  refine D5 ?_
  obtain ⟨y2,g3,h⟩:=R6 h
  refine U2 (KR:=fun r=>a2E env 32 1 Tryz.f32.results.toList (a3t d9 at2 j6 r)) y2 (fun z35=>[(0,.ptr 0 0),(3,.st 1 F6 z35.1)]) (fun z35=>[(0,.row [.sl C8 d9,.i z35.2,.i j6]),(1,.tip (tpe 10 (List.length z35.1)) (List.length z35.1))]) rfl ?_ (fun z35 hx=>?_) (fun r res hz hr hn=>?_)
  ·replace h:=g3
   clear g3
   refine F9 ?_
   refine Y1 rfl ?_
   revert y2
   refine a0x (fun m (x:List Nod × Int)=>U8 n j6 d9 m x.1 x.2) (fun x=>[(0,.ptr 0 0),(3,.st 1 F6 x.1)]) (fun x=>[(0,.row [.sl C8 d9,.i x.2,.i j6]),(1,.tip (tpe 10 (List.length x.1)) (List.length x.1))]) _ (fun _=>rfl) (fun m3 x y ih h=>?_) n (([]:List Nod),at4)
   obtain ⟨b26,a2P⟩:=x
   rw [U8] at h
   refine H8 ?_
   obtain ⟨y4,g5,h⟩:=o9 h
   refine a15 [(0,.ptr 0 0),(3,.st 1 F6 b26),(13,.bool y4)] [(0,.row [.sl C8 d9,.i a2P,.i j6]),(1,.tip (tpe 10 (List.length b26)) (List.length b26))] rfl ?_ ?_
   ·replace h:=g5
    clear g5
    refine u6 (oA 1 rfl ?_)
    obtain ⟨r5,g6,h⟩:=o9 h
    refine oV (G6 g6) ?_
    refine oA 1 rfl ?_
    refine M9 rfl rfl rfl (fun g7=>?_) (fun g7=>?_)
    ·replace h:=a2I h g7
     refine oB 3 rfl ?_
     cases h
     exact rfl
    ·replace h:=a2H h g7
     refine oA 1 rfl ?_
     obtain ⟨r6,g8,h⟩:=o9 h
     refine oV (G6 g8) ?_
     refine oB 1 rfl ?_
     cases h
     exact rfl
   ·obtain ⟨b5X,rfl⟩:∃ q,q = y4:=⟨_,rfl⟩
    refine eI rfl h (fun h=>?_) fun h=>?_
    ·refine E8 ?_
     refine F9 ?_
     refine eSG (oA 1 rfl ?_)
     obtain ⟨at7,g10,h⟩:=o9 h
     refine oV (E5 g10) ?_
     refine oB 2 rfl ?_
     obtain ⟨y11,g12,h⟩:=o9 h
     refine a15 [(0,.ptr 0 0),(3,.st 1 F6 b26),(4,.ptr 2 0)] [(0,.row [.sl C8 d9,.i y11.1,.i j6]),(1,.tip (tpe 10 (List.length b26)) (List.length b26)),(2,.row [.i 13,.str [],.i y11.2,.i 0,.str [],.i 0,.sl p9 ([]:List Typ),.st 3 p9 ([]:List Typ),.st 4 F6 ([]:List Nod),.i at7]),(3,.tip 0 0),(4,.tip 0 0)] rfl ?_ ?_
     ·replace h:=g12
      clear g12
      refine eSG (oA 1 rfl ?_)
      obtain ⟨⟨r8,at9⟩,g13,h⟩:=o9 h
      refine oV (J9 g13) ?_
      refine D5 ?_
      refine eI rfl h (fun h=>?_) fun h=>?_
      ·refine u6 (oB 2 rfl ?_)
       cases h
       exact rfl
      ·refine u6 (oB 8 rfl ?_)
       cases h
       exact rfl
     ·obtain ⟨a2F,n519⟩:=y11
      refine eSG (oA 1 rfl ?_)
      rcases o8 h with ⟨r10,g15,h⟩ | ⟨at22,g23,h⟩
      ·refine oV (G8 g15) ?_
       refine oB 2 rfl (eSG (oA 1 rfl ?_))
       rcases o8 h with ⟨at11,g16,h⟩ | ⟨⟨at20,at21⟩,g22,h⟩
       ·refine oV (o7 g16) ?_
        refine D5 (eSG (oA 1 rfl ?_))
        rcases o8 h with ⟨⟨r12,at13⟩,g17,h⟩ | ⟨⟨at18,at19⟩,g21,h⟩
        ·obtain ⟨r12_0,r12_1,r12_2,r12_3⟩:=r12
         refine oV (J6 g17) ?_
         refine oB 2 rfl (eSG (oA 1 rfl ?_))
         rcases o8 h with ⟨at14,g18,h⟩ | ⟨⟨at16,at17⟩,g20,h⟩
         ·refine oV (o7 g18) ?_
          refine D5 (u6 (oA 3 rfl ?_))
          obtain ⟨l15,g19,h⟩:=o9 h
          refine oP U0 g19 ?_
          refine oB 1 rfl ?_
          exact ⟨_,_,rfl,ih (_,_) _ h⟩
         ·refine oW (o7 g20) ?_
          cases h
          exact ⟨_,rfl,_,_,rfl,rfl⟩
        ·refine oW (J6 g21) ?_
         cases h
         exact ⟨_,rfl,_,_,rfl,rfl⟩
       ·refine oW (o7 g22) ?_
        cases h
        exact ⟨_,rfl,_,_,rfl,rfl⟩
      ·refine oW (G8 g23) ?_
       cases h
       exact ⟨_,rfl,_,_,rfl,rfl⟩
    ·refine V7 ?_
     cases h
     exact ⟨_,rfl,rfl⟩
  ·subst hx
   obtain ⟨l520,a92⟩:=z35
   refine eSG (oA 1 rfl ?_)
   obtain ⟨at23,g24,h⟩:=o9 h
   refine oV (E5 g24) ?_
   refine oB 2 rfl ?_
   obtain ⟨y25,g26,h⟩:=R6 h
   refine U2 (KR:=fun r=>a2E env 32 1 Tryz.f32.results.toList (a3t d9 at2 j6 r)) y25 (fun z34=>[(0,.ptr 0 0),(3,.st 1 F6 z34.1)]) (fun z34=>[(0,.row [.sl C8 d9,.i z34.2,.i j6]),(1,.tip (tpe 10 (List.length z34.1)) (List.length z34.1))]) rfl ?_ (fun z34 hx=>?_) (fun r res hz hr hn=>?_)
   ·replace h:=g26
    clear g26
    refine eSG (oA 1 rfl ?_)
    obtain ⟨⟨r24,at25⟩,g27,h⟩:=o9 h
    refine oV (J9 g27) ?_
    refine D5 ?_
    refine eI rfl h (fun h=>?_) fun h=>?_
    ·refine eSG (oA 1 rfl ?_)
     rcases o8 h with ⟨⟨r26,at27⟩,g29,h⟩ | ⟨⟨e29,at30⟩,g31,h⟩
     ·obtain ⟨r26_0,r26_1,r26_2,⟨r26_3,r26_4,r26_5,r26_6⟩,r26_7,r26_8,r26_9⟩:=r26
      refine oV (a2C g29) ?_
      refine oB 3 rfl (u6 (oA 3 rfl ?_))
      obtain ⟨l28,g30,h⟩:=o9 h
      refine oP U0 g30 ?_
      refine oB 1 rfl ?_
      cases h
      exact ⟨_,rfl,rfl⟩
     ·refine oW (a2C g31) ?_
      cases h
      exact ⟨_,rfl,_,_,rfl,rfl⟩
    ·refine E8 ?_
     cases h
     exact ⟨_,rfl,rfl⟩
   ·subst hx
    obtain ⟨l533,b3l⟩:=z34
    refine eSG (oA 1 rfl ?_)
    rcases o8 h with ⟨at31,g32,h⟩ | ⟨⟨at32,at33⟩,g33,h⟩
    ·refine oV (o7 g32) ?_
     refine D5 (eSG (oB 2 rfl ?_))
     cases h
     exact D7 ⟨_,_,_,rfl,rfl,rfl⟩
    ·refine oW (o7 g33) ?_
     cases h
     exact ⟨_,_,rfl,rfl⟩
   ·subst hz
    rcases res with ⟨_ | _ | _ | _,_,_⟩ <;> first | exact absurd rfl hn | exact hr.elim | (cases h; exact hr)
  ·subst hz
   rcases res with ⟨_ | _ | _ | _,_,_⟩ <;> first | exact absurd rfl hn | exact hr.elim | (cases h; exact hr)
 ·refine oW (o7 g36) ?_
  cases h
  exact ⟨_,_,rfl,rfl⟩
theorem a5Q {n:Nat} {d9:List Tok} {at2:Int} {j6:Int} {r:Rs (List Nod × Int) (Int × Int)} (h:a0Q n d9 at2 j6 = some r) :
  E env (.call 33 [.ptr 0 0]) (hP C8 d9 at2 j6) = some (a2f d9 at2 j6 r):=by
 unfold a0Q at h
 refine K6 rfl Tryz.func33 rfl rfl ?_
 refine eSG (oB 1 rfl (eSG (oB 1 rfl (eSG (oA 1 rfl ?_)))))
 rcases o8 h with ⟨at4,g1,h⟩ | ⟨⟨at36,at37⟩,g37,h⟩
 ·refine oV (o7 g1) ?_
  refine D5 ?_
  obtain ⟨y2,g3,h⟩:=R6 h
  refine U2 (KR:=fun r=>a2E env 33 1 Tryz.f33.results.toList (a2f d9 at2 j6 r)) y2 (fun z36=>[(3,.st 1 F6 z36.1)]) (fun z36=>[(0,.row [.sl C8 d9,.i z36.2,.i j6]),(1,.tip (tpe 10 (List.length z36.1)) (List.length z36.1))]) rfl ?_ (fun z36 hx=>?_) (fun r res hz hr hn=>?_)
  ·replace h:=g3
   clear g3
   refine F9 ?_
   refine Y1 rfl ?_
   revert y2
   refine a0x (fun m (x:List Nod × Int)=>Q5 n j6 d9 m x.1 x.2) (fun x=>[(0,.ptr 0 0),(3,.st 1 F6 x.1)]) (fun x=>[(0,.row [.sl C8 d9,.i x.2,.i j6]),(1,.tip (tpe 10 (List.length x.1)) (List.length x.1))]) _ (fun _=>rfl) (fun m3 x y ih h=>?_) n (([]:List Nod),at4)
   obtain ⟨b3S,a94⟩:=x
   rw [Q5] at h
   refine H8 (eSG (oA 1 rfl ?_))
   obtain ⟨⟨r5,at6⟩,g4,h⟩:=o9 h
   refine oV (D9 g4) ?_
   refine oB 1 rfl ?_
   refine eI rfl h (fun h=>?_) fun h=>?_
   ·refine E8 ?_
    refine F9 ?_
    refine eSG (oA 1 rfl ?_)
    obtain ⟨at7,g6,h⟩:=o9 h
    refine oV (E5 g6) ?_
    refine oB 2 rfl ?_
    obtain ⟨y7,g8,h⟩:=o9 h
    refine a15 [(0,.ptr 0 0),(3,.st 1 F6 b3S),(4,.ptr 2 0)] [(0,.row [.sl C8 d9,.i y7.1,.i j6]),(1,.tip (tpe 10 (List.length b3S)) (List.length b3S)),(2,.row [.i 14,.str [],.i y7.2,.i 0,.str [],.i 0,.sl p9 ([]:List Typ),.st 3 p9 ([]:List Typ),.st 4 F6 ([]:List Nod),.i at7]),(3,.tip 0 0),(4,.tip 0 0)] rfl ?_ ?_
    ·replace h:=g8
     clear g8
     refine eSG (oA 1 rfl ?_)
     obtain ⟨⟨r8,at9⟩,g9,h⟩:=o9 h
     refine oV (J9 g9) ?_
     refine D5 ?_
     refine eI rfl h (fun h=>?_) fun h=>?_
     ·refine u6 (oB 2 rfl ?_)
      cases h
      exact rfl
     ·refine E8 ?_
      cases h
      exact rfl
    ·obtain ⟨a95,b5a⟩:=y7
     refine eSG (oA 1 rfl ?_)
     rcases o8 h with ⟨at10,g11,h⟩ | ⟨⟨at34,at35⟩,g35,h⟩
     ·refine oV (I6 g11) ?_
      refine D5 (eSG (oA 1 rfl ?_))
      rcases o8 h with ⟨r11,g12,h⟩ | ⟨at33,g34,h⟩
      ·refine oV (G8 g12) ?_
       refine oB 2 rfl ?_
       obtain ⟨y13,g14,h⟩:=a3o h
       refine U2 (KR:=fun r=>a2E env 33 1 Tryz.f33.results.toList (a2f d9 at2 j6 r)) y13 (fun z33=>[(0,.ptr 0 0),(3,.st 1 F6 z33.1),(4,.ptr 2 0)]) (fun z33=>[(0,.row [.sl C8 d9,.i z33.2.1,.i j6]),(1,.tip (tpe 10 (List.length z33.1)) (List.length z33.1)),(2,.row [.i 14,.str r11,.i z33.2.2.1,.i 0,.str [],.i 0,.sl p9 ([]:List Typ),.st 3 p9 z33.2.2.2,.st 4 F6 ([]:List Nod),.i at7]),(3,.tip (tpe 4 (List.length z33.2.2.2)) (List.length z33.2.2.2)),(4,.tip 0 0)]) rfl ?_ (fun z33 hx=>?_) (fun r res hz hr hn=>?_)
       ·replace h:=g14
        clear g14
        refine eSG (oA 1 rfl ?_)
        obtain ⟨⟨r12,at13⟩,g15,h⟩:=o9 h
        refine oV (D9 g15) ?_
        refine D5 ?_
        refine eI rfl h (fun h=>?_) fun h=>?_
        ·refine H8 ?_
         refine Q0 [2] rfl ?_
         refine oC rfl rfl (oC rfl rfl (oC rfl rfl (K3 rfl ?_)))
         rcases o8 h with ⟨⟨r14,at15⟩,g17,h⟩ | ⟨⟨at27,at28⟩,g29,h⟩
         ·obtain ⟨r14_0,r14_1,r14_2,r14_3⟩:=r14
          refine oV (J6 g17) ?_
          refine D5 (oC rfl rfl (K3 rfl ?_))
          obtain ⟨l16,g18,h⟩:=o9 h
          refine oP b0r g18 ?_
          refine D5 (oC rfl rfl (oC rfl rfl ?_))
          refine a0X ?_
          refine ⟨rfl,?_⟩
          obtain ⟨y19,g20,h⟩:=a3o h
          refine U2 (KR:=fun r=>a2E env 33 1 Tryz.f33.results.toList (a2f d9 at2 j6 r)) y19 (fun z28=>[(0,.ptr 0 0),(3,.st 1 F6 z28.1),(4,.ptr 2 0)]) (fun z28=>[(0,.row [.sl C8 d9,.i z28.2.1,.i j6]),(1,.tip (tpe 10 (List.length z28.1)) (List.length z28.1)),(2,.row [.i 14,.str r11,.i z28.2.2.1,.i 0,.str [],.i 0,.sl p9 ([]:List Typ),.st 3 p9 z28.2.2.2,.st 4 F6 ([]:List Nod),.i at7]),(3,.tip (tpe 4 (List.length z28.2.2.2)) (List.length z28.2.2.2)),(4,.tip 0 0)]) rfl ?_ (fun z28 hx=>?_) (fun r res hz hr hn=>?_)
          ·replace h:=g20
           clear g20
           refine F9 ?_
           refine Y1 rfl ?_
           revert y19
           refine a0x (fun m (x:List Nod × Int × Int × List Typ)=>U5 n j6 d9 m x.1 x.2.1 x.2.2.1 x.2.2.2) (fun x=>[(0,.ptr 0 0),(3,.st 1 F6 x.1),(4,.ptr 2 0)]) (fun x=>[(0,.row [.sl C8 d9,.i x.2.1,.i j6]),(1,.tip (tpe 10 (List.length x.1)) (List.length x.1)),(2,.row [.i 14,.str r11,.i x.2.2.1,.i 0,.str [],.i 0,.sl p9 ([]:List Typ),.st 3 p9 x.2.2.2,.st 4 F6 ([]:List Nod),.i at7]),(3,.tip (tpe 4 (List.length x.2.2.2)) (List.length x.2.2.2)),(4,.tip 0 0)]) _ (fun _=>rfl) (fun m11 x y ih h=>?_) n (b3S,at15,b5a,l16)
           obtain ⟨l532,b1k,n534,ts535⟩:=x
           rw [U5] at h
           refine H8 (eSG (oA 1 rfl ?_))
           obtain ⟨⟨r17,at18⟩,g21,h⟩:=o9 h
           refine oV (D9 g21) ?_
           refine D5 ?_
           refine eI rfl h (fun h=>?_) fun h=>?_
           ·refine E8 ?_
            refine F9 ?_
            refine Q0 [2] rfl ?_
            refine oC rfl rfl (oC rfl rfl (oC rfl rfl (K3 rfl ?_)))
            rcases o8 h with ⟨⟨r19,at20⟩,g23,h⟩ | ⟨⟨at22,at23⟩,g25,h⟩
            ·obtain ⟨r19_0,r19_1,r19_2,r19_3⟩:=r19
             refine oV (J6 g23) ?_
             refine D5 (oC rfl rfl (K3 rfl ?_))
             obtain ⟨l21,g24,h⟩:=o9 h
             refine oP b0r g24 ?_
             refine D5 (oC rfl rfl (oC rfl rfl ?_))
             refine a0X ?_
             refine ⟨rfl,?_⟩
             exact ⟨_,_,rfl,ih (l532,at20,n534,l21) _ h⟩
            ·refine oW (J6 g25) ?_
             refine ⟨rfl,rfl,_,_,rfl,?_⟩
             cases h
             exact ⟨_,rfl,_,_,rfl,rfl⟩
           ·refine V7 ?_
            cases h
            exact ⟨_,rfl,rfl⟩
          ·subst hx
           obtain ⟨l540,at541,n542,ts543⟩:=z28
           refine u6 (oA 1 rfl ?_)
           rcases o8 h with ⟨at24,g26,h⟩ | ⟨⟨at25,at26⟩,g27,h⟩
           ·refine oV (o7 g26) ?_
            refine D5 ?_
            cases h
            exact ⟨_,rfl,rfl⟩
           ·refine oW (o7 g27) ?_
            cases h
            exact ⟨_,rfl,_,_,rfl,rfl⟩
          ·subst hz
           rcases res with ⟨_ | _ | _ | _,_,_⟩ <;> first | exact absurd rfl hn | exact hr.elim | (cases h; exact ⟨_,rfl,hr⟩)
         ·refine oW (J6 g29) ?_
          refine ⟨rfl,rfl,_,_,rfl,?_⟩
          cases h
          exact ⟨_,rfl,_,_,rfl,rfl⟩
        ·refine E8 ?_
         cases h
         exact ⟨_,rfl,rfl⟩
       ·subst hx
        obtain ⟨l544,b3o,b5b,ts547⟩:=z33
        refine eSG (oA 1 rfl ?_)
        rcases o8 h with ⟨at29,g30,h⟩ | ⟨⟨at31,at32⟩,g32,h⟩
        ·refine oV (o7 g30) ?_
         refine D5 (u6 (oA 3 rfl ?_))
         obtain ⟨l30,g31,h⟩:=o9 h
         refine oP U0 g31 ?_
         refine oB 1 rfl ?_
         exact ⟨_,_,rfl,ih (_,_) _ h⟩
        ·refine oW (o7 g32) ?_
         cases h
         exact ⟨_,rfl,_,_,rfl,rfl⟩
       ·subst hz
        rcases res with ⟨_ | _ | _ | _,_,_⟩ <;> first | exact absurd rfl hn | exact hr.elim | (cases h; exact ⟨_,rfl,hr⟩)
      ·refine oW (G8 g34) ?_
       cases h
       exact ⟨_,rfl,_,_,rfl,rfl⟩
     ·refine oW (I6 g35) ?_
      cases h
      exact ⟨_,rfl,_,_,rfl,rfl⟩
   ·refine V7 ?_
    cases h
    exact ⟨_,rfl,rfl⟩
  ·subst hx
   obtain ⟨l548,b2f⟩:=z36
   refine eSG (oB 2 rfl ?_)
   cases h
   exact D7 ⟨_,_,_,rfl,rfl,rfl⟩
  ·subst hz
   rcases res with ⟨_ | _ | _ | _,_,_⟩ <;> first | exact absurd rfl hn | exact hr.elim | (cases h; exact hr)
 ·refine oW (o7 g37) ?_
  cases h
  exact ⟨_,_,rfl,rfl⟩
end Go.Proofs.YtlfomdllnidliaaGreatDoor
namespace Go.Proofs.YtlfomdllnidliaaGreatDoor
open Go Go.Vm
theorem a4b {n:Nat} {d9:List Tok} {at2:Int} {j6:Int} {r:Rs (Nod × Int) (o6 × Int)} (h:U6 n d9 at2 j6 = some r) :
  E env (.call 14 [.ptr 0 0]) (hP C8 d9 at2 j6) = some (a6y d9 at2 j6 r):=by
 unfold U6 at h
 refine K6 rfl Tryz.func14 rfl rfl ?_
 refine eSG (oB 1 rfl (H8 ?_))
 refine F9 ?_
 refine eSG (oA 1 rfl ?_)
 obtain ⟨r4,g1,h⟩:=o9 h
 refine oV (G6 g1) ?_
 refine oB 1 rfl ?_
 refine eI rfl h (fun h=>?_) fun h=>?_
 ·refine eSG (oA 1 rfl ?_)
  rcases o8 h with ⟨⟨r5,at6⟩,g3,h⟩ | ⟨⟨at7,at8⟩,g4,h⟩
  ·obtain ⟨r5_0,r5_1,r5_2,⟨r5_3,r5_4,r5_5,r5_6⟩,r5_7,r5_8,r5_9⟩:=r5
   refine oV (a4T g3) ?_
   refine oB 1 rfl ?_
   cases h
   exact D7 ⟨_,_,_,rfl,rfl,rfl⟩
  ·refine oW (a4T g4) ?_
   cases h
   exact ⟨_,_,rfl,rfl⟩
 ·refine eSG (oA 1 rfl ?_)
  obtain ⟨r9,g5,h⟩:=o9 h
  refine oV (G6 g5) ?_
  refine oB 1 rfl ?_
  refine eI rfl h (fun h=>?_) fun h=>?_
  ·refine eSG (oA 1 rfl ?_)
   rcases o8 h with ⟨⟨r10,at11⟩,g7,h⟩ | ⟨⟨e12,at13⟩,g8,h⟩
   ·obtain ⟨r10_0,r10_1,r10_2,⟨r10_3,r10_4,r10_5,r10_6⟩,r10_7,r10_8,r10_9⟩:=r10
    refine oV (a5D g7) ?_
    refine oB 1 rfl ?_
    cases h
    exact D7 ⟨_,_,_,rfl,rfl,rfl⟩
   ·refine oW (a5D g8) ?_
    cases h
    exact ⟨_,_,rfl,rfl⟩
  ·refine eSG (oA 1 rfl ?_)
   obtain ⟨r14,g9,h⟩:=o9 h
   refine oV (G6 g9) ?_
   refine oB 1 rfl ?_
   refine eI rfl h (fun h=>?_) fun h=>?_
   ·refine eSG (oA 1 rfl ?_)
    rcases o8 h with ⟨⟨r15,at16⟩,g11,h⟩ | ⟨⟨e17,at18⟩,g12,h⟩
    ·obtain ⟨r15_0,r15_1,r15_2,⟨r15_3,r15_4,r15_5,r15_6⟩,r15_7,r15_8,r15_9⟩:=r15
     refine oV (a1W g11) ?_
     refine oB 1 rfl ?_
     cases h
     exact D7 ⟨_,_,_,rfl,rfl,rfl⟩
    ·refine oW (a1W g12) ?_
     cases h
     exact ⟨_,_,rfl,rfl⟩
   ·refine E8 (eSG (oA 1 rfl ?_))
    obtain ⟨at19,g13,h⟩:=o9 h
    refine oV (E5 g13) ?_
    refine oB 2 rfl (H8 (eSG (oA 1 rfl ?_)))
    obtain ⟨⟨r20,at21⟩,g14,h⟩:=o9 h
    refine oV (J9 g14) ?_
    refine D5 ?_
    refine eI rfl h (fun h=>?_) fun h=>?_
    ·refine eSG (oB 2 rfl (eSG (oA 1 rfl ?_)))
     rcases o8 h with ⟨r22,g16,h⟩ | ⟨at32,g22,h⟩
     ·refine oV (F7 g16) ?_
      refine oB 2 rfl (eSG (oA 1 rfl ?_))
      rcases o8 h with ⟨⟨r23,at24⟩,g17,h⟩ | ⟨⟨at30,at31⟩,g21,h⟩
      ·refine oV (Y5 g17) ?_
       refine oB 2 rfl (H8 ?_)
       refine Q0 [256] rfl ?_
       refine oC rfl rfl (oC rfl rfl (oC rfl rfl (K3 rfl ?_)))
       rcases o8 h with ⟨⟨r25,at26⟩,g18,h⟩ | ⟨⟨e28,at29⟩,g20,h⟩
       ·refine oV (a2h g18) ?_
        refine D5 (K3 rfl ?_)
        obtain ⟨l27,g19,h⟩:=o9 h
        refine b2x U0 g19 rfl rfl rfl rfl rfl rfl rfl rfl rfl rfl rfl rfl rfl rfl (a7f (a1Y (a18.length U0 _).symm) rfl) rfl rfl rfl ?_
        refine D5 (oC rfl rfl (oC rfl rfl ?_))
        refine a0X ?_
        refine ⟨rfl,?_⟩
        refine eSG (oB 2 rfl ?_)
        cases h
        exact D7 ⟨_,_,_,rfl,rfl,rfl⟩
       ·refine oW (a2h g20) ?_
        refine ⟨rfl,rfl,_,_,rfl,?_⟩
        cases h
        exact ⟨_,_,rfl,rfl⟩
      ·refine oW (Y5 g21) ?_
       cases h
       exact ⟨_,_,rfl,rfl⟩
     ·refine oW (F7 g22) ?_
      cases h
      exact ⟨_,_,rfl,rfl⟩
    ·refine E8 ?_
     obtain ⟨y23,g24,h⟩:=o9 h
     refine a15 [(0,.ptr 0 0),(2,.ptr 1 0),(3,.ptr 2 0)] [(0,.row [.sl C8 d9,.i y23.1,.i j6]),(1,.row [.i 0,.str [],.i 0,.i 0,.str [],.i 0,.st 3 p9 ([]:List Typ),.st 4 p9 ([]:List Typ),.st 5 F6 ([]:List Nod),.i 0]),(2,.row [.i 2,.str [],.i y23.2,.i 0,.str [],.i 0,.sl p9 ([]:List Typ),.st 6 p9 ([]:List Typ),.st 7 F6 ([]:List Nod),.i at19]),(3,.tip 0 0),(4,.tip 0 0),(5,.tip 0 0),(6,.tip 0 0),(7,.tip 0 0)] rfl ?_ ?_
     ·replace h:=g24
      clear g24
      refine eSG (oA 1 rfl ?_)
      obtain ⟨⟨r33,at34⟩,g25,h⟩:=o9 h
      refine oV (J9 g25) ?_
      refine D5 ?_
      refine eI rfl h (fun h=>?_) fun h=>?_
      ·refine u6 (oB 5 rfl ?_)
       cases h
       exact rfl
      ·refine E8 ?_
       cases h
       exact rfl
     ·obtain ⟨b1k,n534⟩:=y23
      obtain ⟨y27,g28,h⟩:=o9 h
      refine a15 [(0,.ptr 0 0),(2,.ptr 1 0),(3,.ptr 2 0)] [(0,.row [.sl C8 d9,.i y27.1,.i j6]),(1,.row [.i 0,.str [],.i 0,.i 0,.str [],.i 0,.st 3 p9 ([]:List Typ),.st 4 p9 ([]:List Typ),.st 5 F6 ([]:List Nod),.i 0]),(2,.row [.i 2,.str [],.i y27.2,.i 0,.str [],.i 0,.sl p9 ([]:List Typ),.st 6 p9 ([]:List Typ),.st 7 F6 ([]:List Nod),.i at19]),(3,.tip 0 0),(4,.tip 0 0),(5,.tip 0 0),(6,.tip 0 0),(7,.tip 0 0)] rfl ?_ ?_
      ·replace h:=g28
       clear g28
       refine eSG (oA 1 rfl ?_)
       obtain ⟨⟨r35,at36⟩,g29,h⟩:=o9 h
       refine oV (J9 g29) ?_
       refine D5 ?_
       refine eI rfl h (fun h=>?_) fun h=>?_
       ·refine u6 (oB 5 rfl ?_)
        cases h
        exact rfl
       ·refine E8 ?_
        cases h
        exact rfl
      ·obtain ⟨b3m,a9F⟩:=y27
       refine H8 ?_
       obtain ⟨y31,g32,h⟩:=o9 h
       refine a15 [(0,.ptr 0 0),(2,.ptr 1 0),(3,.ptr 2 0),(56,.bool y31.1)] [(0,.row [.sl C8 d9,.i y31.2,.i j6]),(1,.row [.i 0,.str [],.i 0,.i 0,.str [],.i 0,.st 3 p9 ([]:List Typ),.st 4 p9 ([]:List Typ),.st 5 F6 ([]:List Nod),.i 0]),(2,.row [.i 2,.str [],.i a9F,.i 0,.str [],.i 0,.sl p9 ([]:List Typ),.st 6 p9 ([]:List Typ),.st 7 F6 ([]:List Nod),.i at19]),(3,.tip 0 0),(4,.tip 0 0),(5,.tip 0 0),(6,.tip 0 0),(7,.tip 0 0)] rfl ?_ ?_
       ·replace h:=g32
        clear g32
        refine u6 (oA 5 rfl ?_)
        refine M9 rfl rfl rfl (fun g33=>?_) (fun g33=>?_)
        ·replace h:=a2I h g33
         refine oA 1 rfl ?_
         obtain ⟨⟨r37,at38⟩,g34,h⟩:=o9 h
         refine oV (J9 g34) ?_
         refine oB 1 rfl ?_
         cases h
         exact rfl
        ·replace h:=a2H h g33
         refine oB 3 rfl ?_
         cases h
         exact rfl
       ·obtain ⟨x537,b79⟩:=y31
        refine eI rfl h (fun h=>?_) fun h=>?_
        ·refine eSG (oB 2 rfl (eSG (oA 1 rfl ?_)))
         rcases o8 h with ⟨r39,g36,h⟩ | ⟨at49,g42,h⟩
         ·refine oV (F7 g36) ?_
          refine oB 2 rfl (eSG (oA 1 rfl ?_))
          rcases o8 h with ⟨⟨r40,at41⟩,g37,h⟩ | ⟨⟨at47,at48⟩,g41,h⟩
          ·refine oV (Y5 g37) ?_
           refine oB 2 rfl (H8 ?_)
           refine Q0 [2] rfl ?_
           refine oC rfl rfl (oC rfl rfl (oC rfl rfl (K3 rfl ?_)))
           rcases o8 h with ⟨⟨r42,at43⟩,g38,h⟩ | ⟨⟨at45,at46⟩,g40,h⟩
           ·refine oV (a5Q g38) ?_
            refine D5 (K3 rfl ?_)
            obtain ⟨l44,g39,h⟩:=o9 h
            refine b2x U0 g39 rfl rfl rfl rfl rfl rfl rfl rfl rfl rfl rfl rfl rfl rfl (a7f (a1Y (a18.length U0 _).symm) rfl) rfl rfl rfl ?_
            refine D5 (oC rfl rfl (oC rfl rfl ?_))
            refine a0X ?_
            refine ⟨rfl,?_⟩
            refine eSG (oB 2 rfl ?_)
            cases h
            exact D7 ⟨_,_,_,rfl,rfl,rfl⟩
           ·refine oW (a5Q g40) ?_
            refine ⟨rfl,rfl,_,_,rfl,?_⟩
            cases h
            exact ⟨_,_,rfl,rfl⟩
          ·refine oW (Y5 g41) ?_
           cases h
           exact ⟨_,_,rfl,rfl⟩
         ·refine oW (F7 g42) ?_
          cases h
          exact ⟨_,_,rfl,rfl⟩
        ·refine E8 (eSG (oA 1 rfl ?_))
         rcases o8 h with ⟨at50,g43,h⟩ | ⟨⟨at62,at63⟩,g51,h⟩
         ·refine oV (I6 g43) ?_
          refine D5 (eSG (oA 1 rfl ?_))
          rcases o8 h with ⟨r51,g44,h⟩ | ⟨at61,g50,h⟩
          ·refine oV (F7 g44) ?_
           refine oB 2 rfl (eSG (oA 1 rfl ?_))
           rcases o8 h with ⟨⟨r52,at53⟩,g45,h⟩ | ⟨⟨at59,at60⟩,g49,h⟩
           ·refine oV (Y5 g45) ?_
            refine oB 2 rfl (H8 ?_)
            refine Q0 [2] rfl ?_
            refine oC rfl rfl (oC rfl rfl (oC rfl rfl (K3 rfl ?_)))
            rcases o8 h with ⟨⟨r54,at55⟩,g46,h⟩ | ⟨⟨e57,at58⟩,g48,h⟩
            ·refine oV (a2h g46) ?_
             refine D5 (K3 rfl ?_)
             obtain ⟨l56,g47,h⟩:=o9 h
             refine b2x U0 g47 rfl rfl rfl rfl rfl rfl rfl rfl rfl rfl rfl rfl rfl rfl (a7f (a1Y (a18.length U0 _).symm) rfl) rfl rfl rfl ?_
             refine D5 (oC rfl rfl (oC rfl rfl ?_))
             refine a0X ?_
             refine ⟨rfl,?_⟩
             refine eSG (oB 2 rfl ?_)
             cases h
             exact D7 ⟨_,_,_,rfl,rfl,rfl⟩
            ·refine oW (a2h g48) ?_
             refine ⟨rfl,rfl,_,_,rfl,?_⟩
             cases h
             exact ⟨_,_,rfl,rfl⟩
           ·refine oW (Y5 g49) ?_
            cases h
            exact ⟨_,_,rfl,rfl⟩
          ·refine oW (F7 g50) ?_
           cases h
           exact ⟨_,_,rfl,rfl⟩
         ·refine oW (I6 g51) ?_
          cases h
          exact ⟨_,_,rfl,rfl⟩
theorem a7m {n:Nat} {d9:List Tok} {at2:Int} {j6:Int} {op4:Int} {s5:Str} {n6:Int} {a7S:Int} {a7W:Str} {n9:Int} {a3A:List Typ} {ts11:List Typ} {l12:List Nod} {at13:Int} {a5X:List Typ} {a8q:List Typ} {a8r:List Nod} {r:Rs (Int × Nod) (o6 × Int)} (h:a5a n d9 at2 j6 op4 s5 n6 a7S a7W n9 a3A ts11 l12 at13 a5X a8q a8r = some r) :
  E env (.call 13 [.ptr 1 0,.ptr 2 0]) [(0,.row [.sl C8 d9,.i at2,.i j6]),(1,.row [.ptr 0 0]),(2,.row (c0 op4 s5 n6 a7S a7W n9 (.sl p9 a3A) (.sl p9 ts11) (.sl F6 l12) at13)),(3,.tip (tpe 4 (List.length a5X)) (List.length a5X)),(4,.tip (tpe 4 (List.length a8q)) (List.length a8q)),(5,.tip (tpe 10 (List.length a8r)) (List.length a8r))] = some (b09 d9 at2 j6 op4 s5 n6 a7S a7W n9 a3A ts11 l12 at13 a5X a8q a8r r):=by
 unfold a5a at h
 refine K6 rfl Tryz.func13 rfl rfl ?_
 refine u6 (oA 1 rfl ?_)
 rcases o8 h with ⟨⟨r17,at18⟩,g1,h⟩ | ⟨⟨e19,at20⟩,g2,h⟩
 ·obtain ⟨r17_0,r17_1,r17_2,⟨r17_3,r17_4,r17_5,r17_6⟩,r17_7,r17_8,r17_9⟩:=r17
  refine oV (a4b g1) ?_
  refine oB 1 rfl ?_
  cases h
  exact ⟨_,_,_,rfl,rfl,rfl⟩
 ·refine oW (a4b g2) ?_
  cases h
  exact ⟨_,_,rfl,rfl⟩
theorem a9c {n:Nat} {d9:List Tok} {at2:Int} {j6:Int} {op4:Int} {s5:Str} {n6:Int} {a7S:Int} {a7W:Str} {n9:Int} {a3A:List Typ} {ts11:List Typ} {l12:List Nod} {at13:Int} {r:Flt × Int × Nod} (h:a2U n d9 at2 j6 op4 s5 n6 a7S a7W n9 a3A ts11 l12 at13 = some r) :
  E env (.call 12 [.ptr 0 0,.func (.func 13) [] [.ptr 1 0,.ptr 2 0]]) [(0,.row [.sl C8 d9,.i at2,.i j6]),(1,.row [.ptr 0 0]),(2,.row (c0 op4 s5 n6 a7S a7W n9 (.st 3 p9 a3A) (.st 4 p9 ts11) (.st 5 F6 l12) at13)),(3,.tip (tpe 4 (List.length a3A)) (List.length a3A)),(4,.tip (tpe 4 (List.length ts11)) (List.length ts11)),(5,.tip (tpe 10 (List.length l12)) (List.length l12))] = some (a8w d9 at2 j6 op4 s5 n6 a7S a7W n9 a3A ts11 l12 at13 r):=by
 unfold a2U at h
 rcases o8 h with ⟨⟨at14,n15⟩,g1,h⟩ | ⟨⟨e16,at17⟩,g2,h⟩
 ·obtain ⟨n15_0,n15_1,n15_2,⟨n15_3,n15_4,n15_5,n15_6⟩,n15_7,n15_8,n15_9⟩:=n15
  cases h
  exact E_via rfl rfl (a7m g1) rfl
 ·cases h
  exact E_via rfl rfl (a7m g2) rfl
theorem a9N {n:Nat} {a7w:Int} {D8:List Tok} {at3:Int} {J7:Int} {r:Int} (h:a1D n a7w D8 at3 J7 = some r) :
  E env (.call 15 [.ptr 0 0,.i a7w]) (hP C8 D8 at3 J7) = some (a3u a7w D8 at3 J7 r):=by
 unfold a1D at h
 refine K6 rfl Tryz.func15 rfl rfl ?_
 obtain ⟨y1,g2,h⟩:=o9 h
 refine a15 [(0,.ptr 0 0),(1,.i a7w)] (hP C8 D8 y1 J7) rfl ?_ ?_
 ·replace h:=g2
  clear g2
  refine eSG (oB 6 rfl ?_)
  refine eI rfl h (fun h=>?_) fun h=>?_
  ·refine u6 (oB 8 rfl ?_)
   cases h
   exact rfl
  ·refine E8 ?_
   cases h
   exact rfl
 ·obtain ⟨a2P,rfl⟩:∃ q,q = y1:=⟨_,rfl⟩
  refine eSG (oB 1 rfl ?_)
  obtain ⟨y4,g5,h⟩:=R6 h
  refine U2 (KR:=fun r=>a2E env 15 1 Tryz.f15.results.toList (a3u a7w D8 at3 J7 r)) y4 (fun z26=>[(0,.ptr 0 0)]) (fun z26=>(hP C8 D8 z26 J7)) rfl ?_ (fun z26 hx=>?_) (fun r res hz hr hn=>?_)
  ·replace h:=g5
   clear g5
   refine eSG (oB 2 rfl ?_)
   refine F9 ?_
   refine Y1 rfl ?_
   revert y4
   refine a0x (fun m (x:Int × Int × Int)=>a0T n D8 m x.1 x.2.1 x.2.2) (fun x=>[(0,.ptr 0 0),(4,.i x.1),(5,.i x.2.1)]) (fun x=>[(0,.row [.sl C8 D8,.i x.2.2,.i J7])]) _ (fun _=>rfl) (fun m4 x y ih h=>?_) n (0,a7w,a2P)
   obtain ⟨a8a,i513,a6B⟩:=x
   rw [a0T] at h
   refine H8 (eSG (oB 7 rfl ?_))
   refine eI rfl h (fun h=>?_) fun h=>?_
   ·refine E8 ?_
    obtain ⟨y7,g8,h⟩:=a3o h
    refine U2 (KR:=fun r=>a2E env 15 1 Tryz.f15.results.toList (a3u a7w D8 at3 J7 r)) y7 (fun z25=>[(0,.ptr 0 0),(4,.i z25),(5,.i i513)]) (fun z25=>(hP C8 D8 a6B J7)) rfl ?_ (fun z25 hx=>?_) (fun r res hz hr hn=>?_)
    ·replace h:=g8
     clear g8
     refine F9 ?_
     refine eSG (oA 5 rfl ?_)
     obtain ⟨x5,g9,h⟩:=o9 h
     refine a3E a8n g9 rfl rfl rfl rfl rfl rfl rfl rfl ?_
     refine a7l (c:=[.i x5.kind,.str x5.text,.i x5.at_,.i x5.len]) rfl rfl rfl rfl rfl rfl rfl ?_
     refine oB 2 rfl (H8 ?_)
     obtain ⟨y10,g11,h⟩:=o9 h
     refine a15 [(0,.ptr 0 0),(4,.i a8a),(5,.i i513),(6,.ptr 1 0),(57,.bool y10)] [(0,.row [.sl C8 D8,.i a6B,.i J7]),(1,.row [.i x5.kind,.str x5.text,.i x5.at_,.i x5.len])] rfl ?_ ?_
     ·replace h:=g11
      clear g11
      refine u6 (oA 7 rfl ?_)
      refine M9 rfl rfl rfl (fun g12=>?_) (fun g12=>?_)
      ·replace h:=a2I h g12
       refine oA 4 rfl ?_
       refine M9 rfl rfl rfl (fun g13=>?_) (fun g13=>?_)
       ·replace h:=a2I h g13
        refine oA 5 rfl ?_
        refine M9 rfl rfl rfl (fun g14=>?_) (fun g14=>?_)
        ·replace h:=a2I h g14
         refine oA 3 rfl ?_
         obtain ⟨r6,g15,h⟩:=o9 h
         refine a0t rfl rfl rfl rfl rfl (a3e g15) rfl ?_
         refine oB 1 rfl ?_
         cases h
         exact rfl
        ·replace h:=a2H h g14
         refine oB 5 rfl ?_
         cases h
         exact rfl
       ·replace h:=a2H h g13
        refine oB 10 rfl ?_
        cases h
        exact rfl
      ·replace h:=a2H h g12
       refine oB 14 rfl ?_
       cases h
       exact rfl
     ·obtain ⟨x515,rfl⟩:∃ q,q = y10:=⟨_,rfl⟩
      refine eI rfl h (fun h=>?_) fun h=>?_
      ·refine eSG (oB 5 rfl ?_)
       cases h
       exact D7 ⟨_,rfl,_,_,_,rfl,rfl,rfl⟩
      ·refine E8 ?_
       obtain ⟨y17,g18,h⟩:=o9 h
       refine a15 [(0,.ptr 0 0),(4,.i a8a),(5,.i i513),(6,.ptr 1 0),(69,.bool y17)] [(0,.row [.sl C8 D8,.i a6B,.i J7]),(1,.row [.i x5.kind,.str x5.text,.i x5.at_,.i x5.len])] rfl ?_ ?_
       ·replace h:=g18
        clear g18
        refine u6 (oA 4 rfl ?_)
        refine M9 rfl rfl rfl (fun g19=>?_) (fun g19=>?_)
        ·replace h:=a2I h g19
         refine oB 4 rfl ?_
         cases h
         exact rfl
        ·replace h:=a2H h g19
         refine oB 4 rfl ?_
         cases h
         exact rfl
       ·obtain ⟨x516,rfl⟩:∃ q,q = y17:=⟨_,rfl⟩
        refine eI rfl h (fun h=>?_) fun h=>?_
        ·refine u6 (oB 3 rfl ?_)
         cases h
         exact ⟨_,rfl,rfl⟩
        ·obtain ⟨y21,g22,h⟩:=o9 h
         refine a15 [(0,.ptr 0 0),(4,.i a8a),(5,.i i513),(79,.bool y21)] (hP C8 D8 a6B J7) rfl ?_ ?_
         ·replace h:=g22
          clear g22
          refine u6 (oA 4 rfl ?_)
          refine M9 rfl rfl rfl (fun g23=>?_) (fun g23=>?_)
          ·replace h:=a2I h g23
           refine oB 4 rfl ?_
           cases h
           exact rfl
          ·replace h:=a2H h g23
           refine oB 4 rfl ?_
           cases h
           exact rfl
         ·obtain ⟨b5X,rfl⟩:∃ q,q = y21:=⟨_,rfl⟩
          refine eI rfl h (fun h=>?_) fun h=>?_
          ·refine u6 (oB 3 rfl ?_)
           cases h
           exact ⟨_,rfl,rfl⟩
          ·refine E8 ?_
           cases h
           exact ⟨_,rfl,rfl⟩
    ·subst hx
     obtain ⟨c0S,rfl⟩:∃ q,q = z25:=⟨_,rfl⟩
     refine u6 (oB 3 rfl ?_)
     exact ⟨_,_,rfl,ih (_,_,_) _ h⟩
    ·subst hz
     rcases res with ⟨_ | _ | _ | _,_,_⟩ <;> first | exact absurd rfl hn | exact hr.elim | (cases h; exact ⟨_,rfl,hr⟩)
   ·refine V7 ?_
    cases h
    exact ⟨_,rfl,rfl⟩
  ·subst hx
   obtain ⟨b2e,rfl⟩:∃ q,q = z26:=⟨_,rfl⟩
   refine u6 (oB 9 rfl ?_)
   cases h
   exact ⟨_,_,_,rfl,rfl,rfl⟩
  ·subst hz
   rcases res with ⟨_ | _ | _ | _,_,_⟩ <;> first | exact absurd rfl hn | exact hr.elim | (cases h; exact hr)
structure a0f.Ok (Φ:a0f):Prop where
 a1T:∀ {n1:Nod} {r:Int × Int},Φ.a1T n1 = some r -> E env (.call 16 [.agg (c0 n1.op n1.s n1.n n1.t.kind n1.t.name n1.t.n (.sl p9 n1.t.args) (.sl p9 n1.ts) (.sl F6 n1.l) n1.at_)]) [] = some (a7n n1 r)
theorem b3Y (n:Nat) {Φ:a0f} (hΦ:Φ.Ok) {n1:Nod} {r:Int × Int} (h:a5B n Φ n1 = some r) :
  E env (.call 16 [.agg (c0 n1.op n1.s n1.n n1.t.kind n1.t.name n1.t.n (.sl p9 n1.t.args) (.sl p9 n1.ts) (.sl F6 n1.l) n1.at_)]) [] = some (a7n n1 r):=by
 unfold a5B at h
 obtain ⟨n1_0,n1_1,n1_2,⟨n1_3,n1_4,n1_5,n1_6⟩,n1_7,n1_8,n1_9⟩:=n1
 refine K6 rfl Tryz.func16 rfl rfl ?_
 refine eSG (oB 3 rfl (eSG (oB 1 rfl ?_)))
 obtain ⟨y1,g2,h⟩:=o9 h
 refine a15 [(2,.i y1.1),(3,.i y1.2)] [] rfl ?_ ?_
 ·replace h:=g2
  clear g2
  refine eSG (oB 4 rfl ?_)
  refine F9 ?_
  refine Y1 rfl ?_
  revert y1
  refine a0x (fun m (x:Int × Int × Int)=>a2s n Φ (Nod.mk n1_0 n1_1 n1_2 (Typ.mk n1_3 n1_4 n1_5 n1_6) n1_7 n1_8 n1_9) m x.1 x.2.1 x.2.2) (fun x=>[(2,.i x.1),(3,.i x.2.1),(9,.sl F6 n1_8),(10,.i (List.length n1_8:Int)),(11,.i x.2.2)]) (fun x=>[]) _ (fun _=>rfl) (fun m3 x y ih h=>?_) n (1,0,0)
  obtain ⟨a7j,b2i,x503⟩:=x
  replace h:a2s n Φ (Nod.mk n1_0 n1_1 n1_2 (Typ.mk n1_3 n1_4 n1_5 n1_6) n1_7 n1_8 n1_9) (m3 + 1) a7j b2i x503 = some y:=h
  rw [a2s] at h
  refine eSG (oB 1 rfl (H8 ?_))
  refine eI rfl h (fun h=>?_) fun h=>?_
  ·refine E8 (H8 ?_)
   refine F9 ?_
   refine eSG ?_
   obtain ⟨x2,g4,h⟩:=o9 h
   obtain ⟨x2_0,x2_1,x2_2,⟨x2_3,x2_4,x2_5,x2_6⟩,x2_7,x2_8,x2_9⟩:=x2
   refine a3E U0 g4 rfl rfl rfl rfl rfl rfl rfl rfl ?_
   refine a7l (c:=(c0 x2_0 x2_1 x2_2 x2_3 x2_4 x2_5 (.sl p9 x2_6) (.sl p9 x2_7) (.sl F6 x2_8) x2_9)) rfl rfl rfl rfl rfl rfl rfl ?_
   refine oB 2 rfl (eSG (oA 1 rfl ?_))
   obtain ⟨⟨r3,r4⟩,g5,h⟩:=o9 h
   refine a0t rfl rfl rfl rfl rfl (hΦ.a1T g5) rfl ?_
   refine oB 5 rfl (eSG (oB 4 rfl (u6 (oB 4 rfl (u6 (oB 2 rfl ?_))))))
   exact ⟨_,_,rfl,ih (_,_,_) _ h⟩
  ·refine V7 ?_
   cases h
   exact rfl
 ·obtain ⟨b2u,b8h⟩:=y1
  refine eSG (oB 5 rfl ?_)
  cases h
  exact D7 ⟨_,_,_,rfl,rfl,rfl⟩
theorem a0f.ok:∀ n,(a0f.fs n).Ok
 | 0=>⟨(fun h=>by cases h)⟩
 | n + 1=>⟨(fun h=>b3Y n (a0f.ok n) h)⟩
theorem b55 {n:Nat} {n1:Nod} {r:Int × Int} (h:a1T n n1 = some r) :
  E env (.call 16 [.agg (c0 n1.op n1.s n1.n n1.t.kind n1.t.name n1.t.n (.sl p9 n1.t.args) (.sl p9 n1.ts) (.sl F6 n1.l) n1.at_)]) [] = some (a7n n1 r):=(a0f.ok n).a1T h
end Go.Proofs.YtlfomdllnidliaaGreatDoor
