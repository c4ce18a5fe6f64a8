/- What the functions under ParseTypeBack compute, step by step, as functions in Lean: texts that were built one by one, joined. -/
import Derived.Test.YtamfchbgonekeaaGreatDoorParseTypeBackJ2
set_option maxRecDepth 100000
set_option maxHeartbeats 20000000
set_option linter.unusedSimpArgs false
set_option linter.unusedVariables false
set_option linter.unusedSectionVars false
namespace Go.Proofs.YtamfchbgonekeaaGreatDoor.Sc
open Go Go.Vm
theorem a7w:∀ a:List UInt8,ltS a a = false:=by
 unfold ltS
 intro a
 induction a with
 | nil=>rfl
 | cons x a ih=>simp [Op.bytesLess,ih]
theorem b22:∀ {a b:List UInt8},ltS a b = false -> a ≠ b -> ltS b a = true:=by
 unfold ltS
 intro a
 induction a with
 | nil =>
  intro b h hne
  cases b with
  | nil=>exact absurd rfl hne
  | cons y b=>cases h
 | cons x a ih =>
  intro b h hne
  cases b with
  | nil=>rfl
  | cons y b =>
   simp only [Op.bytesLess,Bool.or_eq_false_iff,Bool.and_eq_false_iff,decide_eq_false_iff_not,Bool.or_eq_true,Bool.and_eq_true,decide_eq_true_eq,beq_iff_eq,beq_eq_false_iff_ne] at h ⊢
   obtain ⟨h1,h2⟩:=h
   by_cases hxy:x = y
   ·subst hxy
    refine .inr ⟨rfl,ih ?_ (fun e=>hne (by rw [e]))⟩
    rcases h2 with h2 | h2
    ·exact absurd rfl h2
    ·exact h2
   ·refine .inl ?_
    rw [UInt8.lt_iff_toNat_lt] at h1 ⊢
    have:x.toNat ≠ y.toNat:=fun e=>hxy (UInt8.toNat_inj.1 e)
    omega
theorem a4u:∀ {a b c:List UInt8},ltS a b = true -> ltS b c = true -> ltS a c = true:=by
 unfold ltS
 intro a
 induction a with
 | nil =>
  intro b c h g
  cases c with
  | nil=>cases b <;> cases g
  | cons z c=>rfl
 | cons x a ih =>
  intro b c h g
  cases b with
  | nil=>cases h
  | cons y b =>
   cases c with
   | nil=>cases g
   | cons z c =>
    simp only [Op.bytesLess,Bool.or_eq_true,Bool.and_eq_true,decide_eq_true_eq,beq_iff_eq] at h g ⊢
    rw [UInt8.lt_iff_toNat_lt] at *
    rcases h with h | ⟨rfl,h⟩ <;> rcases g with g | ⟨rfl,g⟩
    ·exact .inl (by omega)
    ·exact .inl h
    ·exact .inl g
    ·exact .inr ⟨rfl,ih h g⟩
def a5W:List (List UInt8) -> Bool
 | []=>true
 | a :: r=>r.all (fun b=>ltS a b) && a5W r
theorem a1T:∀ {l:List (List UInt8)},a5W l = true -> ∀ i j,i < j -> j < l.length -> ltS (l.getD i []) (l.getD j []) = true
 | [],_,i,j,_,hj=>by simp at hj
 | a :: r,h,i,j,hij,hj=>by
  simp only [a5W,Bool.and_eq_true,List.all_eq_true] at h
  cases j with
  | zero=>omega
  | succ j =>
   have hj':j < r.length:=by simpa using hj
   cases i with
   | zero =>
    have:(a :: r).getD (j + 1) [] = r[j]:=by simp [hj']
    rw [this]
    exact h.1 _ (List.getElem_mem hj')
   | succ i =>
    have:=a1T h.2 i j (by omega) hj'
    simpa using this
def a3V (l:List (List UInt8)) (x:List UInt8):Bool:=l.any fun y=>decide (y = x)
theorem b2U {l:List (List UInt8)} {x:List UInt8} {i:Nat} (hi:i < l.length) (h:eqS (l.getD i []) x = true):a3V l x = true:=by
 simp only [eqS,beq_iff_eq] at h
 simp only [a3V,List.any_eq_true,decide_eq_true_eq]
 refine ⟨l[i],List.getElem_mem hi,?_⟩
 simpa [hi] using h
theorem b2T {l:List (List UInt8)} {x:List UInt8} (h:∀ i,i < l.length -> l.getD i [] ≠ x):a3V l x = false:=by
 simp only [a3V,List.any_eq_false,decide_eq_true_eq]
 intro y hy
 obtain ⟨i,hi,rfl⟩:=List.mem_iff_getElem.1 hy
 have:=h i hi
 simpa [hi] using this
theorem ld9 {l:List (List UInt8)} {i:Nat} (h:i < l.length):Z4 env.T 9 (.ptr 0 (0 + (i:Int).toNat * 1)) [(0,.row (l.map V.str))] = some (.str (l.getD i [])):=by
 show (l.map V.str)[0 + (i:Int).toNat * 1]? = _
 simp [h]
def Y2:List (List UInt8):=[[97,110,121],[99,97,115,101],[99,97,116,99,104],[99,108,97,115,115],[99,111,110,115,117,109,101],[100,101,102,97,117,108,116],[100,101,102,101,114],[100,101,105,110,105,116],[100,111],[101,108,115,101],[101,110,117,109],[101,120,116,101,110,100],[102,97,108,115,101],[102,114,111,122,101,110],[102,117,110,99],[105,102],[105,110],[105,110,100,105,114,101,99,116],[105,110,111,117,116],[108,101,116],[109,97,116,99,104],[109,111,118,101,111,110,108,121],[112,114,111,116,111,99,111,108],[114,101,116,117,114,110],[115,116,114,117,99,116],[116,104,114,111,119],[116,104,114,111,119,115],[116,114,117,101],[116,121,112,101],[118,97,114],[119,104,101,114,101],[119,104,105,108,101]]
def O7:List (List UInt8):=[[33],[33,61],[37],[38],[38,38],[40],[41],[42],[43],[44],[45],[45,62],[46],[47],[58],[59],[60],[60,61],[61],[61,61],[62],[62,61],[91],[93],[123],[124,124],[125]]
theorem a4U:a5W Y2 = true:=by kernel_rfl
theorem c66w (x:List UInt8) (r:Bool) (hr:a3V Y2 x = r) :
  E env (.call 102 [.rslice 0 0 32 false,.str x]) [(0,.row (Y2.map V.str))] = some (.ret (.bool r) [(0,.row (Y2.map V.str))]):=by
 refine L8 rfl Tryz.func102 rfl rfl ?_
 refine eSG (oB 1 rfl (eSG (oB 4 rfl (w9 ?_))))
 refine E9 ?_
 refine a0h rfl ?_
 refine a5d (fun p:Nat × Nat=>[(0,.rslice 0 0 32 false),(1,.str x),(5,.i p.1),(6,.i p.2)]) (fun _=>[(0,.row (Y2.map V.str))]) (fun p=>p.1 <= p.2 /\ p.2 <= 32 /\ (∀ k,k < p.1 -> ltS (Y2.getD k []) x = true) /\ ∀ k,p.2 <= k -> k < 32 -> ltS x (Y2.getD k []) = true) (fun p=>p.2 - p.1) (0,32) ⟨Nat.zero_le _,Nat.le_refl _,fun k hk=>by omega,fun k h1 h2=>by omega⟩ ?_
 intro ⟨lo,hi⟩ ⟨hlo,hhi,hL,hR⟩ ih
 simp only at hlo hhi hL hR
 refine w9 (eSG (oB 3 rfl ?_))
 refine J9 rfl (fun h1=>?_) (fun h1=>?_)
 ·replace h1:lo < hi:=by simpa [ltN] using h1
  refine o7 ?_
  refine E9 ?_
  refine eSG (oA 2 rfl ?_)
  refine u7 rfl rfl (addN (by omega)) ?_
  refine u7 rfl rfl (half (by omega)) ?_
  refine oB 1 rfl ?_
  refine E9 ?_
  refine eSG (oA 2 rfl ?_)
  refine u7 rfl rfl (a2x (a0K (by omega)) rfl) ?_
  refine a5J rfl rfl rfl (ld9 (l:=Y2) (by show _ < 32; omega)) ?_
  refine oB 3 rfl ?_
  refine J9 rfl (fun h2=>?_) (fun h2=>?_)
  ·obtain rfl:r = true:=by rw [<- hr]; exact b2U (l:=Y2) (by show _ < 32; omega) h2
   refine eSG (oB 1 rfl ?_)
   exact j5 ⟨_,rfl,rfl⟩
  ·have hne:Y2.getD ((lo + hi) / 2) [] ≠ x:=fun e=>by simp only [eqS,e,beq_self_eq_true] at h2; cases h2
   refine eSG (oA 2 rfl ?_)
   refine u7 rfl rfl (a2x (a0K (by omega)) rfl) ?_
   refine a5J rfl rfl rfl (ld9 (l:=Y2) (by show _ < 32; omega)) ?_
   refine oB 3 rfl ?_
   refine J9 rfl (fun h3=>?_) (fun h3=>?_)
   ·have hL2:∀ k,k < (lo + hi) / 2 + 1 -> ltS (Y2.getD k []) x = true:=fun k hk=>by
     rcases Nat.lt_or_ge k ((lo + hi) / 2) with h | h
     ·exact a4u (a1T (l:=Y2) a4U _ _ h (by show _ < 32; omega)) h3
     ·obtain rfl:k = (lo + hi) / 2:=by omega
      exact h3
    refine j6 (oA 1 rfl ?_)
    refine u7 rfl rfl (add1 (by omega)) ?_
    refine oB 1 rfl ?_
    exact ⟨_,_,rfl,ih ((lo + hi) / 2 + 1,hi) (by show hi - ((lo + hi) / 2 + 1) < hi - lo; omega) ⟨by show (lo + hi) / 2 + 1 <= hi; omega,hhi,hL2,hR⟩⟩
   ·have hR2:∀ k,(lo + hi) / 2 <= k -> k < 32 -> ltS x (Y2.getD k []) = true:=fun k hk hk2=>by
     have h4:=b22 h3 hne
     rcases Nat.lt_or_ge ((lo + hi) / 2) k with h | h
     ·exact a4u h4 (a1T (l:=Y2) a4U _ _ h (by exact hk2))
     ·obtain rfl:k = (lo + hi) / 2:=by omega
      exact h4
    refine j6 (oB 2 rfl ?_)
    exact ⟨_,_,rfl,ih (lo,(lo + hi) / 2) (by show (lo + hi) / 2 - lo < hi - lo; omega) ⟨by show lo <= (lo + hi) / 2; omega,by show (lo + hi) / 2 <= 32; omega,hL,hR2⟩⟩
 ·replace h1:¬ lo < hi:=by simpa [ltN] using h1
  obtain rfl:r = false:=by
   rw [<- hr]
   refine b2T (l:=Y2) fun k hk e=>?_
   rcases Nat.lt_or_ge k lo with h | h
   ·have:=hL k h; rw [e,a7w] at this; cases this
   ·have:=hR k (by omega) (by exact hk); rw [e,a7w] at this; cases this
  refine X7 ?_
  refine eSG (oB 1 rfl ?_)
  exact j5 ⟨_,rfl,rfl⟩
theorem a4T:a5W O7 = true:=by kernel_rfl
theorem c66s (x:List UInt8) (r:Bool) (hr:a3V O7 x = r) :
  E env (.call 102 [.rslice 0 0 27 false,.str x]) [(0,.row (O7.map V.str))] = some (.ret (.bool r) [(0,.row (O7.map V.str))]):=by
 refine L8 rfl Tryz.func102 rfl rfl ?_
 refine eSG (oB 1 rfl (eSG (oB 4 rfl (w9 ?_))))
 refine E9 ?_
 refine a0h rfl ?_
 refine a5d (fun p:Nat × Nat=>[(0,.rslice 0 0 27 false),(1,.str x),(5,.i p.1),(6,.i p.2)]) (fun _=>[(0,.row (O7.map V.str))]) (fun p=>p.1 <= p.2 /\ p.2 <= 27 /\ (∀ k,k < p.1 -> ltS (O7.getD k []) x = true) /\ ∀ k,p.2 <= k -> k < 27 -> ltS x (O7.getD k []) = true) (fun p=>p.2 - p.1) (0,27) ⟨Nat.zero_le _,Nat.le_refl _,fun k hk=>by omega,fun k h1 h2=>by omega⟩ ?_
 intro ⟨lo,hi⟩ ⟨hlo,hhi,hL,hR⟩ ih
 simp only at hlo hhi hL hR
 refine w9 (eSG (oB 3 rfl ?_))
 refine J9 rfl (fun h1=>?_) (fun h1=>?_)
 ·replace h1:lo < hi:=by simpa [ltN] using h1
  refine o7 ?_
  refine E9 ?_
  refine eSG (oA 2 rfl ?_)
  refine u7 rfl rfl (addN (by omega)) ?_
  refine u7 rfl rfl (half (by omega)) ?_
  refine oB 1 rfl ?_
  refine E9 ?_
  refine eSG (oA 2 rfl ?_)
  refine u7 rfl rfl (a2x (a0K (by omega)) rfl) ?_
  refine a5J rfl rfl rfl (ld9 (l:=O7) (by show _ < 27; omega)) ?_
  refine oB 3 rfl ?_
  refine J9 rfl (fun h2=>?_) (fun h2=>?_)
  ·obtain rfl:r = true:=by rw [<- hr]; exact b2U (l:=O7) (by show _ < 27; omega) h2
   refine eSG (oB 1 rfl ?_)
   exact j5 ⟨_,rfl,rfl⟩
  ·have hne:O7.getD ((lo + hi) / 2) [] ≠ x:=fun e=>by simp only [eqS,e,beq_self_eq_true] at h2; cases h2
   refine eSG (oA 2 rfl ?_)
   refine u7 rfl rfl (a2x (a0K (by omega)) rfl) ?_
   refine a5J rfl rfl rfl (ld9 (l:=O7) (by show _ < 27; omega)) ?_
   refine oB 3 rfl ?_
   refine J9 rfl (fun h3=>?_) (fun h3=>?_)
   ·have hL2:∀ k,k < (lo + hi) / 2 + 1 -> ltS (O7.getD k []) x = true:=fun k hk=>by
     rcases Nat.lt_or_ge k ((lo + hi) / 2) with h | h
     ·exact a4u (a1T (l:=O7) a4T _ _ h (by show _ < 27; omega)) h3
     ·obtain rfl:k = (lo + hi) / 2:=by omega
      exact h3
    refine j6 (oA 1 rfl ?_)
    refine u7 rfl rfl (add1 (by omega)) ?_
    refine oB 1 rfl ?_
    exact ⟨_,_,rfl,ih ((lo + hi) / 2 + 1,hi) (by show hi - ((lo + hi) / 2 + 1) < hi - lo; omega) ⟨by show (lo + hi) / 2 + 1 <= hi; omega,hhi,hL2,hR⟩⟩
   ·have hR2:∀ k,(lo + hi) / 2 <= k -> k < 27 -> ltS x (O7.getD k []) = true:=fun k hk hk2=>by
     have h4:=b22 h3 hne
     rcases Nat.lt_or_ge ((lo + hi) / 2) k with h | h
     ·exact a4u h4 (a1T (l:=O7) a4T _ _ h (by exact hk2))
     ·obtain rfl:k = (lo + hi) / 2:=by omega
      exact h4
    refine j6 (oB 2 rfl ?_)
    exact ⟨_,_,rfl,ih (lo,(lo + hi) / 2) (by show (lo + hi) / 2 - lo < hi - lo; omega) ⟨by show lo <= (lo + hi) / 2; omega,by show (lo + hi) / 2 <= 27; omega,hL,hR2⟩⟩
 ·replace h1:¬ lo < hi:=by simpa [ltN] using h1
  obtain rfl:r = false:=by
   rw [<- hr]
   refine b2T (l:=O7) fun k hk e=>?_
   rcases Nat.lt_or_ge k lo with h | h
   ·have:=hL k h; rw [e,a7w] at this; cases this
   ·have:=hR k (by omega) (by exact hk); rw [e,a7w] at this; cases this
  refine X7 ?_
  refine eSG (oB 1 rfl ?_)
  exact j5 ⟨_,rfl,rfl⟩
end Go.Proofs.YtamfchbgonekeaaGreatDoor.Sc
namespace Go.Proofs.YtamfchbgonekeaaGreatDoor.Sc
open Go Go.Vm
theorem c31:E env (.call 101 []) [] = some (.ret (.agg (Y2.map V.str)) []):=(T9 env).le 5 _ _ _ (by kernel_rfl)
theorem c32:E env (.call 103 []) [] = some (.ret (.agg (O7.map V.str)) []):=(T9 env).le 5 _ _ _ (by kernel_rfl)
def a0e (s:List UInt8) (i:Nat):Nat -> List UInt8
 | 0=>[]
 | k + 1=>match leB ((i + (k + 1):Nat):Int) s.length && a3V O7 ((s.take (i + (k + 1))).drop i) with
  | true=>(s.take (i + (k + 1))).drop i
  | false=>a0e s i k
section
variable (s:List UInt8) (i n:Nat) (tc:List V) (c a:Int) (e:Nat)
theorem c45 (hi:i <= s.length) (hs:s.length < 4611686018427387904) (r:List UInt8) (hr:a0e s i 2 = r):E env (.call 75 [.ptr 0 0]) (scH s i n tc c a e) = some (.ret (.str r) (scH s i n tc c a e)):=by
 refine L8 rfl Tryz.func75 rfl rfl ?_
 refine eSG (oB 1 rfl (eSG ?_))
 refine F4 rfl rfl rfl rfl rfl (c32 ..) rfl ?_
 refine oB 2 rfl (w9 (eSG (oB 1 rfl ?_)))
 refine E9 ?_
 refine a0h rfl ?_
 refine a5d (fun k:Nat=>[(0,.ptr 0 0),(3,.ptr 2 0),(4,.i k)]) (fun _=>[(0,.row [.str s,.i i,.slice (.tag 1) n tc,.i c,.i a]),(1,.tip e n),(2,.row (O7.map V.str))]) (fun k=>k <= 2 /\ a0e s i k = r) (fun k=>k) 2 ⟨Nat.le_refl _,hr⟩ ?_
 intro k ⟨hk,hr⟩ ih
 refine w9 (eSG (oB 2 rfl ?_))
 refine J9 rfl (fun h1=>?_) (fun h1=>?_)
 ·replace h1:0 < k:=by simpa [ltB] using h1
  obtain ⟨k,rfl⟩:∃ k0,k = k0 + 1:=⟨k - 1,by omega⟩
  refine o7 (w9 ?_)
  refine E9 ?_
  refine eSG (oA 6 rfl ?_)
  refine u7 rfl rfl (addN (by omega)) ?_
  refine oA 8 rfl ?_
  refine A8 rfl rfl rfl (fun h2=>?_) (fun h2=>?_)
  ·have h2':i + (k + 1) <= s.length:=by have h:=h2; rw [leN_,decide_eq_true_eq] at h; exact h
   refine u7 rfl rfl (a2x (a6p (a:=0) (b:=27) (by omega) (by omega)) rfl) ?_
   refine oA 16 rfl ?_
   refine u7 rfl rfl (addN (by omega)) ?_
   refine u7 rfl rfl (a2x (a6p (by omega) (by omega)) rfl) ?_
   refine oV (c66s _ _ rfl) ?_
   refine oB 1 rfl ?_
   refine J9 rfl (fun h3=>?_) (fun h3=>?_)
   ·simp only [Int.toNat_natCast] at h3
    obtain rfl:(s.take (i + (k + 1))).drop i = r:=by rw [<- hr]; simp only [a0e,h2,h3,Bool.true_and]
    refine eSG (oA 16 rfl ?_)
    refine u7 rfl rfl (addN (by omega)) ?_
    refine u7 rfl rfl (a2x (a6p (by omega) (by omega)) rfl) ?_
    refine oB 1 rfl ?_
    exact j5 ⟨_,rfl,rfl⟩
   ·simp only [Int.toNat_natCast] at h3
    refine o7 (j6 (oA 1 rfl ?_))
    refine u7 rfl rfl (sub1 (by omega) (by omega)) ?_
    refine oB 1 rfl ?_
    exact ⟨_,_,rfl,ih k (by omega) ⟨by omega,by rw [<- hr]; simp only [a0e,h2,h3,Bool.true_and]⟩⟩
  ·refine oB 21 rfl ?_
   refine P8 rfl rfl ?_
   refine o7 (j6 (oA 1 rfl ?_))
   refine u7 rfl rfl (sub1 (by omega) (by omega)) ?_
   refine oB 1 rfl ?_
   exact ⟨_,_,rfl,ih k (by omega) ⟨by omega,by rw [<- hr]; simp only [a0e,h2,Bool.false_and]⟩⟩
 ·obtain rfl:k = 0:=by simpa [ltB] using h1
  obtain rfl:[] = r:=hr
  refine X7 ?_
  refine eSG (oB 1 rfl ?_)
  exact j5 ⟨_,rfl,rfl⟩
end
end Go.Proofs.YtamfchbgonekeaaGreatDoor.Sc
namespace Go.Proofs.YtamfchbgonekeaaGreatDoor.Sc
open Go Go.Vm
def a1L (w:List UInt8):Int:=match a3V Y2 w with
 | true=>9
 | false=>match leB 65 (w.getD 0 0).toNat && leB (w.getD 0 0).toNat 90 with | true=>2 | false=>1
section
variable (s:List UInt8) (i n:Nat) (tc:List V) (c a:Int) (e:Nat)
theorem c44 (hi:i <= s.length) (hs:s.length < 4611686018427387904) (he:e = 0 ∨ e = 4) (hn:n <= 100000) (htc:tc.length = n * 4) (r:Nat) (hr:K9 R8 s i = r) (w:List UInt8) (hw:(s.take r).drop i = w) (hw0:0 < w.length) (b:Bool) (hb:ltB 24 w.length = b) :
  E env (.call 74 [.ptr 0 0]) (scH s i n tc c a e) = some (.ret (.bool (!b)) (match b with | true=>scH s r n tc 14 i e | false=>scH s r (n + 1) (tc ++ a6D (a1L w) w i (r - i)) c a 4)):=by
 have h63:=c63 s i n tc c a e 100 R8 rfl c65 hi hs
 rw [hr,hw] at h63
 have hri:i <= r:=by rw [<- hr]; exact b0F
 have hrl:r <= s.length:=by rw [<- hr]; exact a3s hi
 obtain ⟨k,hk⟩:∃ k,a1L w = k:=⟨_,rfl⟩
 rw [hk]
 refine L8 rfl Tryz.func74 rfl rfl ?_
 refine eSG (oB 1 rfl (eSG (oB 6 rfl (eSG (oA 3 rfl ?_)))))
 refine a7y rfl rfl rfl (a2X rfl rfl h63 rfl rfl rfl) ?_
 refine oB 1 rfl (w9 (eSG (oB 3 rfl ?_)))
 refine J9 rfl (fun h1=>?_) (fun h1=>?_)
 ·obtain rfl:b = true:=by rw [<- hb]; exact h1
  refine eSG (oA 2 rfl ?_)
  refine oV (c38 ..) ?_
  refine oB 1 rfl ?_
  exact j5 ⟨_,rfl,rfl⟩
 ·obtain rfl:b = false:=by rw [<- hb]; exact h1
  refine o7 (eSG ?_)
  refine F4 rfl rfl rfl rfl rfl (c31 ..) rfl ?_
  refine oB 2 rfl (eSG (oB 1 rfl (w9 (eSG ?_))))
  refine u7 rfl rfl (a2x (a6p (a:=0) (b:=32) (by omega) (by omega)) rfl) ?_
  refine oA 1 rfl ?_
  refine oV (c66w _ _ rfl) ?_
  refine D6 ?_
  refine J9 rfl (fun h2=>?_) (fun h2=>?_)
  ·obtain rfl:9 = k:=by rw [<- hk]; simp only [a1L,h2]
   refine j6 (oB 1 rfl (eSG (oA 4 rfl ?_)))
   refine oV (c46 s r n tc c a e _ w i hri (by omega) he hn htc) ?_
   refine D6 (eSG (oB 1 rfl ?_))
   exact j5 ⟨_,rfl,rfl⟩
  ·refine eSG (oA 1 rfl ?_)
   refine u7 rfl rfl (a2x (a0K (i:=0) hw0) rfl) ?_
   refine oA 2 rfl ?_
   refine A8 rfl rfl rfl (fun h3=>?_) (fun h3=>?_)
   ·refine oA 1 rfl ?_
    refine u7 rfl rfl (a2x (a0K (i:=0) hw0) rfl) ?_
    refine oB 2 rfl ?_
    refine J9 rfl (fun h4=>?_) (fun h4=>?_)
    ·simp only [Int.toNat_zero] at h3 h4
     obtain rfl:2 = k:=by rw [<- hk]; simp only [a1L,h2,h3,h4,Bool.and_self]
     refine j6 (oB 1 rfl (eSG (oA 4 rfl ?_)))
     refine oV (c46 s r n tc c a e _ w i hri (by omega) he hn htc) ?_
     refine D6 (eSG (oB 1 rfl ?_))
     exact j5 ⟨_,rfl,rfl⟩
    ·simp only [Int.toNat_zero] at h3 h4
     obtain rfl:1 = k:=by rw [<- hk]; simp only [a1L,h2,h3,h4,Bool.and_false]
     refine o7 (eSG (oA 4 rfl ?_))
     refine oV (c46 s r n tc c a e _ w i hri (by omega) he hn htc) ?_
     refine D6 (eSG (oB 1 rfl ?_))
     exact j5 ⟨_,rfl,rfl⟩
   ·simp only [Int.toNat_zero] at h3
    obtain rfl:1 = k:=by rw [<- hk]; simp only [a1L,h2,h3,Bool.false_and]
    refine oB 4 rfl ?_
    refine P8 rfl rfl ?_
    refine o7 (eSG (oA 4 rfl ?_))
    refine oV (c46 s r n tc c a e _ w i hri (by omega) he hn htc) ?_
    refine D6 (eSG (oB 1 rfl ?_))
    exact j5 ⟨_,rfl,rfl⟩
end
end Go.Proofs.YtamfchbgonekeaaGreatDoor.Sc
namespace Go.Proofs.YtamfchbgonekeaaGreatDoor.Sc
open Go Go.Vm
structure Tok where
 k:Int
 t:List UInt8
 a:Nat
 l:Nat
deriving DecidableEq
def Q9 (l:List Tok):List V:=l.flatMap fun t=>a6D t.k t.t t.a t.l
theorem a1I (l:List Tok):(Q9 l).length = l.length * 4:=by
 induction l with
 | nil=>rfl
 | cons t r ih=>simp only [Q9,List.flatMap_cons,List.length_append,List.length_cons] at ih ⊢; rw [ih]; simp only [a6D,List.length_cons,List.length_nil]; omega
theorem a4Y (l:List Tok) (t:Tok):Q9 (l ++ [t]) = Q9 l ++ a6D t.k t.t t.a t.l:=by simp [Q9]
inductive PR where
 | err (c:Int) (a:Nat)
 | fin (t:List UInt8) (e:Nat)
 | more (t:List UInt8) (e:Nat)
section
variable (s:List UInt8)
def a2K (q ins:Nat):Nat -> Nat -> List UInt8 -> PR
 | 0,_,_=>.err 11 q
 | f + 1,i,text =>
  match decide (i < s.length) && decide (32 <= (s.getD i 0).toNat) with
  | false=>.err 11 q
  | true=>match decide ((s.getD i 0).toNat = 34) with
   | true=>.fin text (i + 1)
   | false=>match decide ((s.getD i 0).toNat = 92) with
    | false=>a2K q ins f (i + 1) (text ++ [s.getD i 0])
    | true=>match decide ((s.getD (i + 1) 0).toNat = 110) with
     | true=>a2K q ins f (i + 2) (text ++ [10])
     | false=>match decide ((s.getD (i + 1) 0).toNat = 116) with
      | true=>a2K q ins f (i + 2) (text ++ [9])
      | false=>match decide ((s.getD (i + 1) 0).toNat = 92) || decide ((s.getD (i + 1) 0).toNat = 34) with
       | true=>a2K q ins f (i + 2) (text ++ [s.getD (i + 1) 0])
       | false=>match decide ((s.getD (i + 1) 0).toNat = 40) with
        | true=>match decide (3 <= ins) with
         | true=>.err 15 i
         | false=>.more text (i + 2)
        | false=>.err 12 i
theorem a1Q (q ins:Nat):∀ (f g i:Nat) (text:List UInt8),s.length <= i + f -> s.length <= i + g -> a2K s q ins f i text = a2K s q ins g i text:=by
 have z:∀ (g i:Nat) (text:List UInt8),s.length <= i -> a2K s q ins g i text = .err 11 q:=by
  intro g i text h
  cases g with
  | zero=>rfl
  | succ g =>
   have:(decide (i < s.length) && decide (32 <= (s.getD i 0).toNat)) = false:=by rw [Bool.and_eq_false_iff,decide_eq_false_iff_not]; exact .inl (by omega)
   simp only [a2K,this]
 intro f
 induction f with
 | zero=>intro g i text h _; rw [z g i text (by omega)]; rfl
 | succ f ih =>
  intro g i text h1 h2
  cases g with
  | zero=>rw [z (f + 1) i text (by omega)]; rfl
  | succ g =>
   simp only [a2K]
   rw [ih g (i + 1) (text ++ [s.getD i 0]) (by omega) (by omega),ih g (i + 2) (text ++ [10]) (by omega) (by omega),ih g (i + 2) (text ++ [9]) (by omega) (by omega),ih g (i + 2) (text ++ [s.getD (i + 1) 0]) (by omega) (by omega)]
def part (q ins i:Nat) (text:List UInt8):PR:=a2K s q ins (s.length - i) i text
theorem a08 (q ins i:Nat) (text:List UInt8):part s q ins i text =
  match decide (i < s.length) && decide (32 <= (s.getD i 0).toNat) with
  | false=>.err 11 q
  | true=>match decide ((s.getD i 0).toNat = 34) with
   | true=>.fin text (i + 1)
   | false=>match decide ((s.getD i 0).toNat = 92) with
    | false=>part s q ins (i + 1) (text ++ [s.getD i 0])
    | true=>match decide ((s.getD (i + 1) 0).toNat = 110) with
     | true=>part s q ins (i + 2) (text ++ [10])
     | false=>match decide ((s.getD (i + 1) 0).toNat = 116) with
      | true=>part s q ins (i + 2) (text ++ [9])
      | false=>match decide ((s.getD (i + 1) 0).toNat = 92) || decide ((s.getD (i + 1) 0).toNat = 34) with
       | true=>part s q ins (i + 2) (text ++ [s.getD (i + 1) 0])
       | false=>match decide ((s.getD (i + 1) 0).toNat = 40) with
        | true=>match decide (3 <= ins) with
         | true=>.err 15 i
         | false=>.more text (i + 2)
        | false=>.err 12 i:=by
 unfold part
 rw [a1Q s q ins (s.length - i) (s.length - i + 1) i text (by omega) (by omega)]
 simp only [a2K]
 rw [a1Q s q ins (s.length - i) (s.length - (i + 1)) (i + 1) _ (by omega) (by omega),a1Q s q ins (s.length - i) (s.length - (i + 2)) (i + 2) (text ++ [10]) (by omega) (by omega),
  a1Q s q ins (s.length - i) (s.length - (i + 2)) (i + 2) (text ++ [9]) (by omega) (by omega),a1Q s q ins (s.length - i) (s.length - (i + 2)) (i + 2) (text ++ [s.getD (i + 1) 0]) (by omega) (by omega)]
structure MS where
 i:Nat
 toks:List Tok
 st:List (Nat × Int)
inductive MR where
 | go (x:MS)
 | done (l:List Tok)
 | err (c:Int) (a:Nat)
def Y7 (toks:List Tok) (st:List (Nat × Int)) (q frm:Nat) (last more:Int):PR -> MR
 | .err c a=>.err c a
 | .fin t e=>.go ⟨e,toks ++ [⟨last,t,frm,e - frm⟩],st⟩
 | .more t e=>.go ⟨e,toks ++ [⟨more,t,frm,e - frm⟩],(q,0) :: st⟩
def bump (w:List UInt8):List (Nat × Int) -> List (Nat × Int)
 | []=>[]
 | (q,p) :: st=>match decide (w = [40]) with
  | true=>(q,p + 1) :: st
  | false=>match decide (w = [41]) with
   | true=>(q,p - 1) :: st
   | false=>(q,p) :: st
def closes (b:Nat):List (Nat × Int) -> Bool
 | []=>false
 | (_,p) :: _=>decide (p = 0) && decide (b = 41)
def roomy (toks:List Tok) (j:Nat) (r:MR):MR:=match decide (3000 <= toks.length) with | true=>.err 2 j | false=>r
def stepM (x:MS):MR :=
  let j:=M8 s x.i
  match decide (s.length <= j) with
  | true=>match x.st with
    | []=>.done x.toks
    | (q,_) :: _=>.err 11 q
  | false =>
    let b:=s.getD j 0
    match closes b.toNat x.st with
    | true=>match x.st with
      | []=>.err 0 0
      | (q,_) :: st=>roomy x.toks j (Y7 x.toks st q j 7 6 (part s q st.length (j + 1) []))
    | false=>match decide (b.toNat = 34) with
      | true=>roomy x.toks j (Y7 x.toks x.st j j 4 5 (part s j x.st.length (j + 1) []))
      | false=>match I7 b with
        | true=>roomy x.toks j (
            let r:=K9 I7 s j
            let w:=(s.take r).drop j
            match Q5 w (s.getD r 0) with
            | true=>.err 13 j
            | false=>.go ⟨r,x.toks ++ [⟨3,w,j,r - j⟩],x.st⟩)
        | false=>match Q6 b with
          | true=>roomy x.toks j (
              let r:=K9 R8 s j
              let w:=(s.take r).drop j
              match ltB 24 w.length with
              | true=>.err 14 j
              | false=>.go ⟨r,x.toks ++ [⟨a1L w,w,j,r - j⟩],x.st⟩)
          | false =>
            let w:=a0e s j 2
            match w with
            | []=>.err 10 j
            | w=>roomy x.toks j (.go ⟨j + w.length,x.toks ++ [⟨8,w,j,w.length⟩],bump w x.st⟩)
inductive Reach:MS -> MS -> Prop
 | refl (x:MS):Reach x x
 | step (x y z:MS):stepM s x = .go y -> Reach y z -> Reach x z
def Ends (x:MS) (r:MR):Prop:=∃ y,Reach s x y /\ stepM s y = r /\ (∀ z,r ≠ .go z)
theorem Reach.trans {x y z:MS} (h:Reach s x y) (g:Reach s y z):Reach s x z:=by
 induction h with
 | refl x=>exact g
 | step x y w h1 _ ih=>exact .step x y z h1 (ih g)
theorem Reach.one {x y:MS} (h:stepM s x = .go y):Reach s x y:=.step x y y h (.refl y)
theorem Ends.M0 {x y:MS} {r:MR} (h:Reach s x y) (g:Ends s y r):Ends s x r:=by
 obtain ⟨z,h1,h2⟩:=g; exact ⟨z,h.trans s h1,h2⟩
theorem Ends.det {x:MS} {r r':MR} (h:Ends s x r) (g:Ends s x r'):r = r':=by
 obtain ⟨y,h1,h2,h3⟩:=h
 obtain ⟨z,g1,g2,g3⟩:=g
 induction h1 with
 | refl x =>
  cases g1 with
  | refl=>rw [<- h2,<- g2]
  | step _ y _ k1 _=>rw [h2] at k1; exact absurd k1 (h3 y)
 | step x y w k1 k2 ih =>
  cases g1 with
  | refl=>rw [g2] at k1; exact absurd k1 (g3 y)
  | step _ y' _ m1 m2 =>
   rw [k1] at m1; cases m1
   exact ih h2 m2
end
end Go.Proofs.YtamfchbgonekeaaGreatDoor.Sc
namespace Go.Proofs.YtamfchbgonekeaaGreatDoor.Sc
open Go Go.Vm
theorem a1H (t:List UInt8):(U8 t).length = t.length * 1:=by simp [U8]
theorem a1d (t:List UInt8) (b:UInt8):U8 t ++ [V.int .u8 (b.toNat:Nat)] = U8 (t ++ [b]):=by simp [U8]
theorem a3Y (t:List UInt8) (b:UInt8):t.length + 1 = (t ++ [b]).length:=by simp
theorem a7o {o:Own} (t:List UInt8):b1y env.T 66 9 (.slice o t.length (U8 t)) = some (.str t):=by
 show (match a1c (U8 t) with | some l=>gd (eqN t.length l.length) (some (V.str l)) | none=>none) = _
 rw [a8S]
 exact a7R (a0z rfl) rfl
def scE (s:List UInt8) (i:Nat) (toks:List Tok) (c a:Int) (e:Nat):Hp:=scH s i toks.length (Q9 toks) c a e
theorem c46T (s:List UInt8) (i:Nat) (toks:List Tok) (c a:Int) (e:Nat) (k:Int) (t:List UInt8) (f:Nat) (hf:f <= i) (hi:i < 9223372036854775808) (he:e = 0 ∨ e = 4) (hn:toks.length <= 100000) :
  E env (.call 76 [.ptr 0 0,.i k,.str t,.i f]) (scE s i toks c a e) = some (.ret (.tuple []) (scE s i (toks ++ [⟨k,t,f,i - f⟩]) c a 4)):=by
 have h:=c46 s i toks.length (Q9 toks) c a e k t f hf hi he hn (a1I toks)
 unfold scE
 rw [a4Y,List.length_append]
 exact h
theorem c39F (s:List UInt8) (i:Nat) (toks:List Tok) (c a:Int) (e:Nat) (h:leB 3000 (toks.length:Nat) = false):E env (.call 69 [.ptr 0 0]) (scE s i toks c a e) = some (.ret (.bool true) (scE s i toks c a e)):=by
 have:=c39 s i toks.length (Q9 toks) c a e
 rw [h] at this; exact this
theorem c39T (s:List UInt8) (i:Nat) (toks:List Tok) (c a:Int) (e:Nat) (h:leB 3000 (toks.length:Nat) = true):E env (.call 69 [.ptr 0 0]) (scE s i toks c a e) = some (.ret (.bool false) (scE s i toks 2 i e)):=by
 have:=c39 s i toks.length (Q9 toks) c a e
 rw [h] at this; exact this
def OutP (s:List UInt8) (c a:Int) (P:Nat -> List Tok -> Prop) (Q:Int -> Nat -> Prop) (v:V) (H:Hp):Prop :=
 (v = .bool true /\ ∃ i' toks' e',H = scE s i' toks' c a e' /\ (e' = 0 ∨ e' = 4) /\ i' <= s.length /\ toks'.length <= 3000 /\ P i' toks') ∨
 (v = .bool false /\ ∃ (c':Int) (a' i' n':Nat) (tc':List V) (e':Nat),H = scH s i' n' tc' c' a' e' /\ Q c' a')
def AllOk (s:List UInt8) (nest:Nat):Prop:=∀ (i:Nat) (toks:List Tok) (st:List (Nat × Int)) (opn:Nat) (c a:Int) (e:Nat),i <= s.length -> toks.length <= 3000 -> (e = 0 ∨ e = 4) -> st.length + 1 = nest ->
 ∃ v H2,E env (.call 42 [.ptr 0 0,.i nest,.i opn]) (scE s i toks c a e) = some (.ret v H2) /\
  OutP s c a (fun i' toks'=>i <= i' /\ i' < s.length /\ (s.getD i' 0).toNat = 41 /\ ∃ i0,Reach s ⟨i,toks,(opn,0) :: st⟩ ⟨i0,toks',(opn,0) :: st⟩ /\ M8 s i0 = i')
   (fun c' a'=>Ends s ⟨i,toks,(opn,0) :: st⟩ (.err c' a')) v H2
def a7C (s:List UInt8) (nest:Nat):Prop:=∀ (i i0:Nat) (toks:List Tok) (st:List (Nat × Int)) (c a:Int) (e:Nat),M8 s i0 = i -> i < s.length -> (s.getD i 0).toNat = 34 -> toks.length < 3000 -> (e = 0 ∨ e = 4) -> st.length = nest ->
 ∃ v H2,E env (.call 70 [.ptr 0 0,.i nest]) (scE s i toks c a e) = some (.ret v H2) /\
  OutP s c a (fun i' toks'=>i < i' /\ Reach s ⟨i0,toks,st⟩ ⟨i',toks',st⟩) (fun c' a'=>Ends s ⟨i0,toks,st⟩ (.err c' a')) v H2
theorem a9l {b:Nat} {st:List (Nat × Int)} (h:b ≠ 41):closes b st = false:=by
 cases st with
 | nil=>rfl
 | cons x st=>simp [closes,h]
theorem b1q {s:List UInt8} {i i0:Nat} {toks:List Tok} {st:List (Nat × Int)} (h0:M8 s i0 = i) (hi:i < s.length) (hq:(s.getD i 0).toNat = 34) (ht:toks.length < 3000) :
  stepM s ⟨i0,toks,st⟩ = Y7 toks st i i 4 5 (part s i st.length (i + 1) []):=by
 have h1:decide (s.length <= i) = false:=by simp; omega
 have h2:decide (3000 <= toks.length) = false:=by simp; omega
 simp only [stepM,h0,h1,a9l (st:=st) (b:=(s.getD i 0).toNat) (by omega),hq,decide_true,roomy,h2]
 rw [hq] at *
 simp only [a9l (st:=st) (b:=34) (by omega)]
theorem a1j {s:List UInt8} {i i0 q:Nat} {toks:List Tok} {st:List (Nat × Int)} (h0:M8 s i0 = i) (hi:i < s.length) (hq:(s.getD i 0).toNat = 41) :
  stepM s ⟨i0,toks,(q,0) :: st⟩ = roomy toks i (Y7 toks st q i 7 6 (part s q st.length (i + 1) [])):=by
 have h1:decide (s.length <= i) = false:=by simp; omega
 simp only [stepM,h0,h1,closes,hq,decide_true,Bool.and_self]
structure LS where
 X:MS
 first:Bool
 text:List UInt8
 w:Nat
 j:Nat
 frm:Nat
 toks:List Tok
 e:Nat
end Go.Proofs.YtamfchbgonekeaaGreatDoor.Sc
namespace Go.Proofs.YtamfchbgonekeaaGreatDoor.Sc
open Go Go.Vm
section
variable {s:List UInt8} {q ins j:Nat} {text:List UInt8}
theorem part_end (h:s.length <= j):part s q ins j text = .err 11 q:=by
 have h1:(decide (j < s.length) && decide (32 <= (s.getD j 0).toNat)) = false:=by rw [Bool.and_eq_false_iff,decide_eq_false_iff_not]; exact .inl (by omega)
 rw [a08]; simp only [h1]
theorem part_low (h:(s.getD j 0).toNat < 32):part s q ins j text = .err 11 q:=by
 have h1:(decide (j < s.length) && decide (32 <= (s.getD j 0).toNat)) = false:=by rw [Bool.and_eq_false_iff,decide_eq_false_iff_not,decide_eq_false_iff_not]; exact .inr (by omega)
 rw [a08]; simp only [h1]
variable (h:j < s.length) (h2:32 <= (s.getD j 0).toNat)
include h h2
theorem a2d:(decide (j < s.length) && decide (32 <= (s.getD j 0).toNat)) = true:=by rw [Bool.and_eq_true,decide_eq_true_eq,decide_eq_true_eq]; exact ⟨h,h2⟩
theorem b1k (h3:(s.getD j 0).toNat = 34):part s q ins j text = .fin text (j + 1):=by
 rw [a08,a2d h h2]; simp only [decide_eq_true h3]
theorem b3C (h3:(s.getD j 0).toNat ≠ 34) (h4:(s.getD j 0).toNat ≠ 92):part s q ins j text = part s q ins (j + 1) (text ++ [s.getD j 0]):=by
 rw [a08,a2d h h2]; simp only [decide_eq_false h3,decide_eq_false h4]
variable (h4:(s.getD j 0).toNat = 92)
include h4
theorem a02:decide ((s.getD j 0).toNat = 34) = false:=decide_eq_false (by omega)
theorem part_n (h5:(s.getD (j + 1) 0).toNat = 110):part s q ins j text = part s q ins (j + 2) (text ++ [10]):=by
 rw [a08,a2d h h2]; simp only [a02 h h2 h4,decide_eq_true h4,decide_eq_true h5]
theorem part_t (h5:(s.getD (j + 1) 0).toNat = 116):part s q ins j text = part s q ins (j + 2) (text ++ [9]):=by
 have h6:decide ((s.getD (j + 1) 0).toNat = 110) = false:=decide_eq_false (by omega)
 rw [a08,a2d h h2]; simp only [a02 h h2 h4,decide_eq_true h4,h6,decide_eq_true h5]
theorem a9N (h5:(s.getD (j + 1) 0).toNat = 92 ∨ (s.getD (j + 1) 0).toNat = 34):part s q ins j text = part s q ins (j + 2) (text ++ [s.getD (j + 1) 0]):=by
 have h6:decide ((s.getD (j + 1) 0).toNat = 110) = false:=decide_eq_false (by omega)
 have h7:decide ((s.getD (j + 1) 0).toNat = 116) = false:=decide_eq_false (by omega)
 have h8:(decide ((s.getD (j + 1) 0).toNat = 92) || decide ((s.getD (j + 1) 0).toNat = 34)) = true:=by rw [Bool.or_eq_true,decide_eq_true_eq,decide_eq_true_eq]; exact h5
 rw [a08,a2d h h2]; simp only [a02 h h2 h4,decide_eq_true h4,h6,h7,h8]
theorem b3D (h5:(s.getD (j + 1) 0).toNat = 40) (h9:3 <= ins):part s q ins j text = .err 15 j:=by
 have h6:decide ((s.getD (j + 1) 0).toNat = 110) = false:=decide_eq_false (by omega)
 have h7:decide ((s.getD (j + 1) 0).toNat = 116) = false:=decide_eq_false (by omega)
 have h8:(decide ((s.getD (j + 1) 0).toNat = 92) || decide ((s.getD (j + 1) 0).toNat = 34)) = false:=by rw [Bool.or_eq_false_iff,decide_eq_false_iff_not,decide_eq_false_iff_not]; omega
 rw [a08,a2d h h2]; simp only [a02 h h2 h4,decide_eq_true h4,h6,h7,h8,decide_eq_true h5,decide_eq_true h9]
theorem a9M (h5:(s.getD (j + 1) 0).toNat = 40) (h9:¬ 3 <= ins):part s q ins j text = .more text (j + 2):=by
 have h6:decide ((s.getD (j + 1) 0).toNat = 110) = false:=decide_eq_false (by omega)
 have h7:decide ((s.getD (j + 1) 0).toNat = 116) = false:=decide_eq_false (by omega)
 have h8:(decide ((s.getD (j + 1) 0).toNat = 92) || decide ((s.getD (j + 1) 0).toNat = 34)) = false:=by rw [Bool.or_eq_false_iff,decide_eq_false_iff_not,decide_eq_false_iff_not]; omega
 rw [a08,a2d h h2]; simp only [a02 h h2 h4,decide_eq_true h4,h6,h7,h8,decide_eq_true h5,decide_eq_false h9]
theorem part_bad (h5:(s.getD (j + 1) 0).toNat ≠ 110) (h6:(s.getD (j + 1) 0).toNat ≠ 116) (h7:(s.getD (j + 1) 0).toNat ≠ 92) (h8:(s.getD (j + 1) 0).toNat ≠ 34) (h9:(s.getD (j + 1) 0).toNat ≠ 40):part s q ins j text = .err 12 j:=by
 have h10:(decide ((s.getD (j + 1) 0).toNat = 92) || decide ((s.getD (j + 1) 0).toNat = 34)) = false:=by rw [Bool.or_eq_false_iff,decide_eq_false_iff_not,decide_eq_false_iff_not]; omega
 rw [a08,a2d h h2]; simp only [a02 h h2 h4,decide_eq_true h4,decide_eq_false h5,decide_eq_false h6,h10,decide_eq_false h9]
end
end Go.Proofs.YtamfchbgonekeaaGreatDoor.Sc
