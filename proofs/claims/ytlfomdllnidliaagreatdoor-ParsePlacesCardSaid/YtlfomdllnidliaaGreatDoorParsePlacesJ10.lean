/- What the functions under ParsePlaces compute, step by step, as functions in Lean: texts that were built one by one, joined. -/
import Derived.Test.YtlfomdllnidliaaGreatDoorParsePlacesJ9
set_option maxRecDepth 100000
set_option maxHeartbeats 20000000
set_option linter.unusedSimpArgs false
set_option linter.unusedVariables false
set_option linter.unusedSectionVars false
namespace Go.Proofs.YtlfomdllnidliaaGreatDoor
open Go Go.Vm
section
variable {α β γ ρ σ:Type}
def Wp (p:Option α) (K:α -> Prop):Prop:=∀ x,p = some x -> K x
theorem a0s {x:α} {K:α -> Prop} (h:K x):Wp (some x) K:=fun _ e=>by cases e; exact h
theorem a07 {K:α -> Prop}:Wp none K:=fun _ e=>by cases e
theorem wp_mono {p:Option α} {P K:α -> Prop} (h:Wp p P) (g:∀ x,P x -> K x):Wp p K:=fun x e=>g x (h x e)
theorem wp_bind {p:Option α} {f:α -> Option β} {K:β -> Prop} (h:Wp p fun x=>Wp (f x) K):Wp (p.bind f) K:=by
 cases p with
 | none=>exact a07
 | some x=>exact h x rfl
theorem b1y {x y:Option α} {K:α -> Prop} (a:Wp x K):Wp (cond true x y) K:=a
theorem b1x {x y:Option α} {K:α -> Prop} (a:Wp y K):Wp (cond false x y) K:=a
theorem b1z {c:Bool} {x y:Option α} {K:α -> Prop} (a:Wp x K) (b:Wp y K):Wp (cond c x y) K:=by
 cases c with
 | true=>exact a
 | false=>exact b
theorem wp_cond {c:Bool} {x y:Option α} {K:α -> Prop} (a:c = true -> Wp x K) (b:c = false -> Wp y K):Wp (cond c x y) K:=by
 cases c with
 | true=>exact a rfl
 | false=>exact b rfl
def PK (f:α -> Option γ) (g:β -> Option γ) (K:γ -> Prop):Rs α β -> Prop
 | .ok x=>Wp (f x) K
 | .pan e=>Wp (g e) K
def LK (f:α -> Option ρ) (K:ρ -> Prop):Lr α ρ -> Prop
 | .brk x=>Wp (f x) K
 | .out r=>K r
def QK (f:α -> Option (Lr γ ρ)) (K:Lr γ ρ -> Prop):Lr α ρ -> Prop
 | .brk x=>Wp (f x) K
 | .out r=>K (.out r)
theorem a2d {p:Option (Rs α β)} {f:α -> Option γ} {g:β -> Option γ} {K:γ -> Prop} (h:Wp p (PK f g K)):Wp (C9 p f g) K:=by
 match p with
 | none=>exact a07
 | some (.ok x)=>exact h _ rfl
 | some (.pan x)=>exact h _ rfl
theorem a4X {p:Option (Lr α ρ)} {f:α -> Option ρ} {K:ρ -> Prop} (h:Wp p (LK f K)):Wp (R8 p f) K:=by
 match p with
 | none=>exact a07
 | some (.brk x)=>exact h _ rfl
 | some (.out x)=>exact a0s (h _ rfl)
theorem a4Y {p:Option (Lr α ρ)} {f:α -> Option (Lr γ ρ)} {K:Lr γ ρ -> Prop} (h:Wp p (QK f K)):Wp (a3Y p f) K:=by
 match p with
 | none=>exact a07
 | some (.brk x)=>exact h _ rfl
 | some (.out x)=>exact a0s (h _ rfl)
theorem b1h {b:Nat} {xs ys:List α} {K:List α -> Prop} (h:K (xs ++ ys)):Wp (app b xs ys) K:=fun z e=>by
 unfold app at e
 obtain ⟨_,e⟩:=O9 e
 cases e; exact h
theorem a99 {xs:List α} {i:Int} {K:α -> Prop} (h:∀ x,K x):Wp (idx' xs i) K:=fun z _=>h z
theorem any_w {p:Option α} {K:α -> Prop} (h:∀ x,K x):Wp p K:=fun z _=>h z
end
inductive PN (l:List Tok) (size:Int):Int -> Int -> Nod -> Prop
 | mk {k q:Int} (j:Int) {x:Nod}:k <= j -> j < q -> x.at_ = H6 l size j.toNat -> (∀ y ∈ x.l,PN l size j q y) -> PN l size k q x
def PL (l:List Tok) (size:Int) (k q:Int) (xs:List Nod):Prop:=∀ x ∈ xs,PN l size k q x
section
variable {l:List Tok} {size:Int}
theorem PN.up':∀ {q:Int} {x:Nod} {k:Int},PN l size k q x -> ∀ {k' q':Int},k' <= k -> q <= q' -> PN l size k' q' x:=by
 intro q x k h
 induction h with
 | mk j h1 h2 h3 h4 ih=>exact fun a b=>.mk j (by omega) (by omega) h3 fun y hy=>ih y hy (Int.le_refl _) b
theorem PN.up {k q k' q':Int} {x:Nod} (h:PN l size k q x) (a:k' <= k) (b:q <= q'):PN l size k' q' x:=h.up' a b
theorem PL.up {k q k' q':Int} {xs:List Nod} (h:PL l size k q xs) (a:k' <= k) (b:q <= q'):PL l size k' q' xs:=fun x hx=>(h x hx).up a b
theorem a8B {k q:Int}:PL l size k q []:=fun x hx=>by cases hx
theorem a8A {k q:Int} {xs ys:List Nod} (h:PL l size k q xs) (g:PL l size k q ys):PL l size k q (xs ++ ys):=fun x hx=>by
 rcases List.mem_append.1 hx with hx | hx
 ·exact h x hx
 ·exact g x hx
theorem a6f {k q:Int} {y:Nod} {ys:List Nod} (h:PN l size k q y) (g:PL l size k q ys):PL l size k q (y :: ys):=fun x hx=>by
 rcases List.mem_cons.1 hx with hx | hx
 ·rw [hx]; exact h
 ·exact g x hx
theorem a5o {k q j:Int} {op n:Int} {s:Str} {t:Typ} {ts:List Typ} {xs:List Nod} {a:Int} (e:a = H6 l size j.toNat) (h1:k <= j) (h2:j < q) (h:PL l size j q xs):PN l size k q ⟨op,s,n,t,ts,xs,a⟩:=.mk j h1 h2 e h
theorem b1q {k q k1 q1:Int} {op n:Int} {s:Str} {t:Typ} {ts:List Typ} {xs:List Nod} {x:Nod} (h:PN l size k1 q1 x) (h1:k <= k1) (h2:q1 <= q) (g:∀ j,k <= j -> j < q1 -> PN l size j q x -> PL l size j q xs):PN l size k q ⟨op,s,n,t,ts,xs,x.at_⟩:=by
 cases h with
 | mk j a b e c=>exact .mk j (by omega) (by omega) e (g j (by omega) b (.mk j (Int.le_refl _) (by omega) e fun y hy=>(c y hy).up (Int.le_refl _) h2))
structure Tk (l:List Tok):Prop where
 hl:(l.length:Int) <= 3000
variable (D:Tk l)
include D
theorem w1 {a:Int} (h0:0 <= a) (h1:a <= l.length):w64 (a + 1) = a + 1:=by have:=D.hl; exact a3W (by omega) (by omega)
theorem a7g {a:Int} (h0:0 <= a) (h1:a <= l.length) {K:Int -> Prop} (g:K (H6 l size a.toNat)):Wp (a0G l a size) K:=fun x e=>by
 obtain ⟨k,rfl⟩:=Int.eq_ofNat_of_zero_le h0
 refine (show x = H6 l size (k:Int).toNat from ?_) ▸ g
 clear g
 unfold a0G at e
 simp only [H6,Int.toNat_natCast]
 rcases Nat.lt_or_ge k l.length with h | h
 ·rw [a4G (by omega),cond_true,a2J h,Option.bind_some] at e
  cases e
  rw [List.getElem?_eq_getElem h]
 ·rw [a4j (by omega),cond_false] at e
  cases e
  rw [List.getElem?_eq_none h]
theorem a8u {op a:Int} (h0:0 <= a) (h1:a <= l.length) {K:Int -> Prop} (g:K (H6 l size a.toNat)):Wp (E9 op l a size) K:=by
 unfold E9
 exact wp_bind (a7g D h0 h1 (a0s g))
theorem b24 {a:Int} {kind:Int} {s:Str} (h0:0 <= a) (h1:a <= l.length) {K:Bool -> Prop} (g:a < l.length -> w64 (a + 1) = a + 1 -> K true) (e:K false):Wp (u7 0 kind s l a size) K:=by
 have hw:=w1 D h0 h1
 have:=D.hl
 unfold u7
 rw [Int.add_zero,a3W (a:=a) (by omega) (by omega)]
 refine wp_cond (fun _=>a0s e) fun hc=>?_
 have hlt:a < l.length:=by
  simp only [leB,decide_eq_false_iff_not] at hc; omega
 refine wp_bind (a99 fun x=>wp_cond (fun _=>wp_cond (fun _=>a0s (g hlt hw)) fun _=>a0s ?_) fun _=>a0s e)
 cases eqS x.text s with
 | true=>exact g hlt hw
 | false=>exact e
theorem b1p {a:Int} {kind:Int} {s:Str} {K:Bool -> Prop} (g:∀ b,K b):Wp (u7 1 kind s l a size) K:=fun x _=>g x
theorem b9G {a:Int} {K:Rs Empty Int -> Prop} (g:∀ p,K (.pan p)):Wp (Z4 l a size) K:=by
 unfold Z4
 exact wp_bind (any_w fun r=>a0s (g r))
theorem a4F {a kind:Int} (h0:0 <= a) (h1:a <= l.length) {K:Rs Tok Int -> Prop} (g:∀ t,a < l.length -> w64 (a + 1) = a + 1 -> K (.ok t)) (e:∀ p,K (.pan p)):Wp (M0 kind l a size) K:=by
 unfold M0
 refine wp_bind (b24 D h0 h1 (fun hlt hw=>?_) ?_)
 ·exact wp_cond (fun h=>by cases h) fun _=>wp_bind (a99 fun x=>a0s (g x hlt hw))
 ·exact wp_cond (fun _=>a2d (b9G D fun p=>a0s (e p))) fun h=>by cases h
theorem a3P {a:Int} (h0:0 <= a) (h1:a <= l.length) {K:Rs Str Int -> Prop} (g:∀ t,a < l.length -> w64 (a + 1) = a + 1 -> K (.ok t)) (e:∀ p,K (.pan p)):Wp (H7 l a size) K:=by
 unfold H7
 exact a2d (a4F D h0 h1 (fun t hlt hw=>a0s (g _ hlt hw)) fun p=>a0s (e p))
theorem a8t {a:Int} (h0:0 <= a) (h1:a <= l.length) {K:Rs Str Int -> Prop} (g:∀ t,a < l.length -> w64 (a + 1) = a + 1 -> K (.ok t)) (e:∀ p,K (.pan p)):Wp (K5 l a size) K:=by
 unfold K5
 exact a2d (a4F D h0 h1 (fun t hlt hw=>a0s (g _ hlt hw)) fun p=>a0s (e p))
theorem a3R {a:Int} (h0:0 <= a) (h1:a <= l.length) {K:Rs Int Int -> Prop} (g:∀ t,a < l.length -> w64 (a + 1) = a + 1 -> K (.ok t)) (e:∀ p,K (.pan p)):Wp (Y6 l a size) K:=by
 unfold Y6
 exact a2d (a4F D h0 h1 (fun t hlt hw=>wp_bind (any_w fun n=>a0s (g _ hlt hw))) fun p=>a0s (e p))
theorem a7C {a:Int} {s:Str} (h0:0 <= a) (h1:a <= l.length) {K:Bool × Int -> Prop} (g:∀ q,a < l.length -> q = a + 1 -> K (true,q)) (e:K (false,a)):Wp (A7 s l a size) K:=by
 unfold A7
 refine wp_bind (b24 D h0 h1 (fun hlt hw=>?_) ?_)
 ·exact wp_cond (fun h=>by cases h) fun _=>a0s (g _ hlt hw)
 ·exact wp_cond (fun _=>a0s e) fun h=>by cases h
theorem b0y {a:Int} {s:Str} (h0:0 <= a) (h1:a <= l.length) {K:Bool × Int -> Prop} (g:∀ q,a < l.length -> q = a + 1 -> K (true,q)) (e:K (false,a)):Wp (F3 s l a size) K:=by
 unfold F3
 refine wp_bind (b24 D h0 h1 (fun hlt hw=>?_) ?_)
 ·exact wp_cond (fun h=>by cases h) fun _=>a0s (g _ hlt hw)
 ·exact wp_cond (fun _=>a0s e) fun h=>by cases h
theorem a8I {a:Int} {s:Str} (h0:0 <= a) (h1:a <= l.length) {K:Rs Int (Int × Int) -> Prop} (g:∀ q,a < l.length -> q = a + 1 -> K (.ok q)) (e:∀ p r,K (.pan (p,r))):Wp (q9 s l a size) K:=by
 unfold q9
 refine wp_bind (a7C D h0 h1 (fun q hlt hw=>?_) ?_)
 ·exact wp_cond (fun h=>by cases h) fun _=>a0s (g _ hlt hw)
 ·exact wp_cond (fun _=>a2d (b9G D fun p=>a0s (e _ _))) fun h=>by cases h
theorem a3T {a:Int} {s:Str} (h0:0 <= a) (h1:a <= l.length) {K:Rs Int (Int × Int) -> Prop} (g:∀ q,a < l.length -> q = a + 1 -> K (.ok q)) (e:∀ p r,K (.pan (p,r))):Wp (J2 s l a size) K:=by
 unfold J2
 refine wp_bind (b0y D h0 h1 (fun q hlt hw=>?_) ?_)
 ·exact wp_cond (fun h=>by cases h) fun _=>a0s (g _ hlt hw)
 ·exact wp_cond (fun _=>a2d (b9G D fun p=>a0s (e _ _))) fun h=>by cases h
end
section
variable {α β γ ρ σ:Type}
theorem a6d {s:Str} {ts:List Typ} {K:Typ -> Prop} (h:∀ x,K x):Wp (a4n s ts) K:=fun z _=>h z
theorem a8K {a b:Int} {x y:Option α} {K:α -> Prop} (f:a < b -> Wp x K) (g:Wp y K):Wp (cond (ltB a b) x y) K:=wp_cond (fun h=>f (by simpa [ltB] using h)) fun _=>g
theorem a8J {w:Str} {c:UInt8} {cs:Str} {P:Prop} {x y:Option α} {K:α -> Prop} (h:w = [] ∨ P) (f:P -> Wp x K) (g:Wp y K):Wp (cond (eqS w (c :: cs)) x y) K:=wp_cond (fun e=>by
 rcases h with h | h
 ·subst h; simp [eqS] at e
 ·exact f h) fun _=>g
theorem a3a {n:Nat} {xs:List Str} {v:Str} {K:Bool -> Prop} (h:∀ b,K b):Wp (R9 n xs v) K:=fun b _=>h b
theorem a4R {K:Unit -> Prop} (h:∀ b,K b):Wp a5C K:=fun b _=>h b
theorem a3S {n:Nat} {x:Nod} {K:Bool -> Prop} (h:∀ b,K b):Wp (a5m n x) K:=fun b _=>h b
theorem a8G {xs:List α} {i j:Int} {K:List α -> Prop} (h:∀ b,K b):Wp (subL xs i j) K:=fun b _=>h b
variable (l:List Tok) (size:Int)
@[reducible] def SN (k:Int) (p:Option (Rs (Nod × Int) β)):Prop:=∀ K:Rs (Nod × Int) β -> Prop,(∀ x q,k < q -> q <= l.length -> PN l size k q x -> K (.ok (x,q))) -> (∀ y,K (.pan y)) -> 0 <= k -> k <= l.length -> Wp p K
@[reducible] def SL (k:Int) (p:Option (Rs (List Nod × Int) β)):Prop:=∀ K:Rs (List Nod × Int) β -> Prop,(∀ x q,k <= q -> q <= l.length -> PL l size k q x -> K (.ok (x,q))) -> (∀ y,K (.pan y)) -> 0 <= k -> k <= l.length -> Wp p K
@[reducible] def ST (k:Int) (p:Option (Rs (Typ × Int) β)):Prop:=∀ K:Rs (Typ × Int) β -> Prop,(∀ x q,k < q -> q <= l.length -> K (.ok (x,q))) -> (∀ y,K (.pan y)) -> 0 <= k -> k <= l.length -> Wp p K
@[reducible] def LA (p:List Nod -> Int -> Option (Lr (List Nod × Int) (Rs ρ β))):Prop:=∀ (k:Int) (K:Lr (List Nod × Int) (Rs ρ β) -> Prop),(∀ x q,k <= q -> q <= l.length -> PL l size k q x -> K (.brk (x,q))) -> (∀ y,K (.out (.pan y))) -> ∀ (a:Int) (xs:List Nod),0 <= k -> k <= a -> a <= l.length -> PL l size k a xs -> Wp (p xs a) K
@[reducible] def LB (p:Int -> List Nod -> Option (Lr (Int × List Nod) (Rs ρ β))):Prop:=∀ (k:Int) (K:Lr (Int × List Nod) (Rs ρ β) -> Prop),(∀ x q,k <= q -> q <= l.length -> PL l size k q x -> K (.brk (q,x))) -> (∀ y,K (.out (.pan y))) -> ∀ (a:Int) (xs:List Nod),0 <= k -> k <= a -> a <= l.length -> PL l size k a xs -> Wp (p a xs) K
@[reducible] def LF (p:List Nod -> Int -> Option (Rs (List Nod × Int) β)):Prop:=∀ (k:Int) (K:Rs (List Nod × Int) β -> Prop),(∀ x q,k <= q -> q <= l.length -> PL l size k q x -> K (.ok (x,q))) -> (∀ y,K (.pan y)) -> ∀ (a:Int) (xs:List Nod),0 <= k -> k <= a -> a <= l.length -> PL l size k a xs -> Wp (p xs a) K
end
theorem grpA {l:List Tok} {size:Int} (D:Tk l) {n:Nat} :
  (∀ m:Nat,LF l size (Y2 n size l m)) /\
  (∀ k0:Int,SL l size k0 (a0y n l k0 size)) /\
  (∀ m:Nat,LA l size (Q7 n size l m)) /\
  (∀ k0:Int,SL l size k0 (N9 n l k0 size)):=by
 have bounds_l:∀ m:Nat,LF l size (Y2 n size l m):=?_
 have bounds_s:∀ k0:Int,SL l size k0 (a0y n l k0 size):=?_
 have gens_l:∀ m:Nat,LA l size (Q7 n size l m):=?_
 have gens_s:∀ k0:Int,SL l size k0 (N9 n l k0 size):=?_
 exact ⟨bounds_l,bounds_s,gens_l,gens_s⟩
 all_goals try (intro (m:Nat); induction m with
  | zero=>intro _ _ _ _; intros; exact a07
  | succ m ih=>?_)
 all_goals
  intro k0 K g e
  try intro (a:Int)
  intros
  try have hw:=w1 D (a:=a) (by omega) (by omega)
  first | rw [Y2.eq_2] | unfold a0y | rw [Q7.eq_2] | unfold N9
 all_goals
  repeat' first
   | (with_reducible first
   | apply a4R | apply a07 | apply a2d | apply a4X | apply a4Y | apply wp_bind | apply b1y | apply b1x | apply b1h | apply a99 | apply a6d | apply a3a | apply a3S | apply a8G | apply a0s | apply a8B | apply a8A | apply a6f | apply a7g D | apply a8u D | apply b24 D | apply b1p D | apply a7C D | apply b0y D | apply a8I D | apply a3T D | apply a3P D | apply a8t D | apply a3R D | apply a4F D | apply bounds_l _ k0 | apply bounds_s | apply gens_l _ k0 | apply gens_s | apply g | apply e | apply ih k0)
   | with_reducible refine a8J hword ?_ ?_
   | with_reducible apply a8K
   | with_reducible apply b1z
   | dsimp only [PK,LK,QK,Bool.not_true,Bool.not_false]
   | assumption
   | omega
   | exact .inl rfl
   | exact .inr ⟨by assumption,by assumption⟩
   | with_reducible refine a5o (by assumption) ?_ ?_ ?_
   | with_reducible refine a5o rfl ?_ ?_ ?_
   | with_reducible refine b1q (by assumption) ?_ ?_ ?_
   | with_reducible refine PN.up (by assumption) ?_ ?_
   | with_reducible refine PL.up (by assumption) ?_ ?_
   | (intro _)
structure TySp (l:List Tok) (size:Int) (Φ:A9):Prop where
 typ:∀ k0:Int,ST l k0 (Φ.D6 l k0 size)
 path:∀ (b:Bool) (k0:Int),ST l k0 (Φ.P6 b l k0 size)
theorem grpT {l:List Tok} {size:Int} (D:Tk l) {n:Nat} {Φ:A9} (S:TySp l size Φ) {b:Bool} :
  (∀ (m:Nat) (k:Int) K,(∀ x q,k <= q -> q <= l.length -> K (.brk (x,q))) -> (∀ y,K (.out (.pan y))) -> ∀ (a:Int) x,0 <= k -> k <= a -> a <= l.length -> Wp (P7 n Φ size l m x a) K) /\
  (∀ (m:Nat) (k:Int) K,(∀ x q,k <= q -> q <= l.length -> K (.brk (x,q))) -> (∀ y,K (.out (.pan y))) -> ∀ (a:Int) x,0 <= k -> k <= a -> a <= l.length -> Wp (a0i n Φ size l m x a) K) /\
  (∀ (m:Nat) (k:Int) K,(∀ x q,k < q -> q <= l.length -> K (.brk (q,x))) -> (∀ y,K (.out (.pan y))) -> ∀ (a:Int) x,0 <= k -> k < a -> a <= l.length -> Wp (K9 n Φ b size l m a x) K) /\
  (∀ k0:Int,ST l k0 (a09 n Φ l k0 size)) /\
  (∀ k0:Int,ST l k0 (Y0 n Φ b l k0 size)):=by
 have typ_l:∀ (m:Nat) (k:Int) K,(∀ x q,k <= q -> q <= l.length -> K (.brk (x,q))) -> (∀ y,K (.out (.pan y))) -> ∀ (a:Int) x,0 <= k -> k <= a -> a <= l.length -> Wp (P7 n Φ size l m x a) K:=?_
 have path_l5:∀ (m:Nat) (k:Int) K,(∀ x q,k <= q -> q <= l.length -> K (.brk (x,q))) -> (∀ y,K (.out (.pan y))) -> ∀ (a:Int) x,0 <= k -> k <= a -> a <= l.length -> Wp (a0i n Φ size l m x a) K:=?_
 have path_l9:∀ (m:Nat) (k:Int) K,(∀ x q,k < q -> q <= l.length -> K (.brk (q,x))) -> (∀ y,K (.out (.pan y))) -> ∀ (a:Int) x,0 <= k -> k < a -> a <= l.length -> Wp (K9 n Φ b size l m a x) K:=?_
 have typ_b:∀ k0:Int,ST l k0 (a09 n Φ l k0 size):=?_
 have path_b:∀ k0:Int,ST l k0 (Y0 n Φ b l k0 size):=?_
 exact ⟨typ_l,path_l5,path_l9,typ_b,path_b⟩
 all_goals try (intro (m:Nat); induction m with
  | zero=>intro _ _ _ _; intros; exact a07
  | succ m ih=>?_)
 all_goals
  intro k0 K g e
  try intro (a:Int)
  intros
  try have hw:=w1 D (a:=a) (by omega) (by omega)
  first | rw [P7.eq_2] | rw [a0i.eq_2] | rw [K9.eq_2] | unfold a09 | unfold Y0
 all_goals
  repeat' first
   | (with_reducible first
   | apply a4R | apply a07 | apply a2d | apply a4X | apply a4Y | apply wp_bind | apply b1y | apply b1x | apply b1h | apply a99 | apply a6d | apply a3a | apply a3S | apply a8G | apply a0s | apply a8B | apply a8A | apply a6f | apply a7g D | apply a8u D | apply b24 D | apply b1p D | apply a7C D | apply b0y D | apply a8I D | apply a3T D | apply a3P D | apply a8t D | apply a3R D | apply a4F D | apply S.typ | apply S.path | apply typ_l _ k0 | apply path_l5 _ k0 | apply path_l9 _ k0 | apply typ_b | apply path_b | apply g | apply e | apply ih k0)
   | with_reducible refine a8J hword ?_ ?_
   | with_reducible apply a8K
   | with_reducible apply b1z
   | dsimp only [PK,LK,QK,Bool.not_true,Bool.not_false]
   | assumption
   | omega
   | exact .inl rfl
   | exact .inr ⟨by assumption,by assumption⟩
   | with_reducible refine a5o (by assumption) ?_ ?_ ?_
   | with_reducible refine a5o rfl ?_ ?_ ?_
   | with_reducible refine b1q (by assumption) ?_ ?_ ?_
   | with_reducible refine PN.up (by assumption) ?_ ?_
   | with_reducible refine PL.up (by assumption) ?_ ?_
   | (intro _)
theorem b70 {l:List Tok} {size:Int} (D:Tk l):∀ n:Nat,TySp l size (A9.fs n)
 | 0=>⟨fun _ _ _ _ _ _=>a07,fun _ _ _ _ _ _ _=>a07⟩
 | n + 1=>⟨(grpT D (b70 D n) (b:=true)).2.2.2.1,fun b=>(grpT D (b70 D n) (b:=b)).2.2.2.2⟩
theorem b3O {l:List Tok} {size:Int} (D:Tk l) {n:Nat}:∀ k0:Int,ST l k0 (D6 n l k0 size):=(b70 D n).typ
theorem b0E {l:List Tok} {size:Int} (D:Tk l) {n:Nat} {b:Bool}:∀ k0:Int,ST l k0 (P6 n b l k0 size):=(b70 D n).path b
end Go.Proofs.YtlfomdllnidliaaGreatDoor
namespace Go.Proofs.YtlfomdllnidliaaGreatDoor
open Go Go.Vm
theorem grpB {l:List Tok} {size:Int} (D:Tk l) {n:Nat} :
  (∀ m:Nat,LF l size (X3 n size l m)) /\
  (∀ k0:Int,SL l size k0 (a0U n l k0 size)) /\
  (∀ m:Nat,LA l size (U9 n size l m)) /\
  (∀ k0:Int,SL l size k0 (U4 n l k0 size)) /\
  (∀ (k:Int) (K:_ -> Prop),(∀ x q,k <= q -> q <= l.length -> K (.ok (x,q))) -> (∀ y,K (.pan y)) -> 0 <= k -> k <= l.length -> Wp (R7 n l k size) K) /\
  (∀ (k:Int) (K:_ -> Prop),(∀ s t xs q,k < q -> q <= l.length -> PL l size k q xs -> K (.ok (s,t,xs,H6 l size k.toNat,q))) -> (∀ y,K (.pan y)) -> 0 <= k -> k <= l.length -> Wp (V3 n l k size) K) /\
  (∀ m:Nat,LB l size (Q8 n size l m)) /\
  (∀ m:Nat,LB l size (P8 n size l m)) /\
  (∀ k0:Int,SN l size k0 (a0w n l k0 size)) /\
  (∀ (m:Nat) (k:Int) (K:_ -> Prop),(∀ x q s t,k < q -> q <= l.length -> PL l size k q x -> K (.brk (q,s,t,x))) -> (∀ y,K (.out (.pan y))) -> ∀ (a:Int) (op:Int) (s:Str) (xs:List Nod),0 <= k -> k < a -> a <= l.length -> PL l size k a xs -> Wp (W9 n (H6 l size k.toNat) size l m a op s xs) K) /\
  (∀ k0:Int,SN l size k0 (a0q n l k0 size)):=by
 obtain ⟨bounds_l,bounds_s,gens_l,gens_s⟩:=grpA D (n:=n) (size:=size)
 have where_l:∀ m:Nat,LF l size (X3 n size l m):=?_
 have where_s:∀ k0:Int,SL l size k0 (a0U n l k0 size):=?_
 have params_l:∀ m:Nat,LA l size (U9 n size l m):=?_
 have params_s:∀ k0:Int,SL l size k0 (U4 n l k0 size):=?_
 have result_s:∀ (k:Int) (K:_ -> Prop),(∀ x q,k <= q -> q <= l.length -> K (.ok (x,q))) -> (∀ y,K (.pan y)) -> 0 <= k -> k <= l.length -> Wp (R7 n l k size) K:=?_
 have sign_s:∀ (k:Int) (K:_ -> Prop),(∀ s t xs q,k < q -> q <= l.length -> PL l size k q xs -> K (.ok (s,t,xs,H6 l size k.toNat,q))) -> (∀ y,K (.pan y)) -> 0 <= k -> k <= l.length -> Wp (V3 n l k size) K:=?_
 have proto_l5:∀ m:Nat,LB l size (Q8 n size l m):=?_
 have proto_l12:∀ m:Nat,LB l size (P8 n size l m):=?_
 have proto_s:∀ k0:Int,SN l size k0 (a0w n l k0 size):=?_
 have place_l:∀ (m:Nat) (k:Int) (K:_ -> Prop),(∀ x q s t,k < q -> q <= l.length -> PL l size k q x -> K (.brk (q,s,t,x))) -> (∀ y,K (.out (.pan y))) -> ∀ (a:Int) (op:Int) (s:Str) (xs:List Nod),0 <= k -> k < a -> a <= l.length -> PL l size k a xs -> Wp (W9 n (H6 l size k.toNat) size l m a op s xs) K:=?_
 have place_s:∀ k0:Int,SN l size k0 (a0q n l k0 size):=?_
 exact ⟨where_l,where_s,params_l,params_s,result_s,sign_s,proto_l5,proto_l12,proto_s,place_l,place_s⟩
 all_goals try (intro (m:Nat); induction m with
  | zero=>intro _ _ _ _; intros; exact a07
  | succ m ih=>?_)
 all_goals
  intro k0 K g e
  try intro (a:Int)
  intros
  try have hw:=w1 D (a:=a) (by omega) (by omega)
  first | rw [X3.eq_2] | unfold a0U | rw [U9.eq_2] | unfold U4 | unfold R7 | unfold V3 | rw [Q8.eq_2] | rw [P8.eq_2] | unfold a0w | rw [W9.eq_2] | unfold a0q
 all_goals
  repeat' first
   | (with_reducible first
   | apply a4R | apply a07 | apply a2d | apply a4X | apply a4Y | apply wp_bind | apply b1y | apply b1x | apply b1h | apply a99 | apply a6d | apply a3a | apply a3S | apply a8G | apply a0s | apply a8B | apply a8A | apply a6f | apply a7g D | apply a8u D | apply b24 D | apply b1p D | apply a7C D | apply b0y D | apply a8I D | apply a3T D | apply a3P D | apply a8t D | apply a3R D | apply a4F D | apply b3O D | apply b0E D | apply bounds_s | apply gens_s | apply where_l _ k0 | apply where_s | apply params_l _ k0 | apply params_s | apply result_s | apply sign_s | apply proto_l5 _ k0 | apply proto_l12 _ k0 | apply proto_s | apply place_l _ k0 | apply place_s | apply g | apply e | apply ih k0)
   | with_reducible refine a8J hword ?_ ?_
   | with_reducible apply a8K
   | with_reducible apply b1z
   | dsimp only [PK,LK,QK,Bool.not_true,Bool.not_false]
   | assumption
   | omega
   | exact .inl rfl
   | exact .inr ⟨by assumption,by assumption⟩
   | with_reducible refine a5o (by assumption) ?_ ?_ ?_
   | with_reducible refine a5o rfl ?_ ?_ ?_
   | with_reducible refine b1q (by assumption) ?_ ?_ ?_
   | with_reducible refine PN.up (by assumption) ?_ ?_
   | with_reducible refine PL.up (by assumption) ?_ ?_
   | (intro _)
structure PatSp (l:List Tok) (size:Int) (Φ:I7):Prop where
 pat:∀ k0:Int,SN l size k0 (Φ.J8 l k0 size)
theorem grpP {l:List Tok} {size:Int} (D:Tk l) {n:Nat} {Φ:I7} (S:PatSp l size Φ) :
  (∀ m:Nat,LB l size (T9 n Φ size l m)) /\
  (∀ k0:Int,SN l size k0 (a0j n Φ l k0 size)):=by
 obtain ⟨bounds_l,bounds_s,gens_l,gens_s⟩:=grpA D (n:=n) (size:=size)
 obtain ⟨where_l,where_s,params_l,params_s,result_s,sign_s,proto_l5,proto_l12,proto_s,place_l,place_s⟩:=grpB D (n:=n) (size:=size)
 have pat_l:∀ m:Nat,LB l size (T9 n Φ size l m):=?_
 have pat_b:∀ k0:Int,SN l size k0 (a0j n Φ l k0 size):=?_
 exact ⟨pat_l,pat_b⟩
 all_goals try (intro (m:Nat); induction m with
  | zero=>intro _ _ _ _; intros; exact a07
  | succ m ih=>?_)
 all_goals
  intro k0 K g e
  try intro (a:Int)
  intros
  try have hw:=w1 D (a:=a) (by omega) (by omega)
  first | rw [T9.eq_2] | unfold a0j
 all_goals
  repeat' first
   | (with_reducible first
   | apply a4R | apply a07 | apply a2d | apply a4X | apply a4Y | apply wp_bind | apply b1y | apply b1x | apply b1h | apply a99 | apply a6d | apply a3a | apply a3S | apply a8G | apply a0s | apply a8B | apply a8A | apply a6f | apply a7g D | apply a8u D | apply b24 D | apply b1p D | apply a7C D | apply b0y D | apply a8I D | apply a3T D | apply a3P D | apply a8t D | apply a3R D | apply a4F D | apply b3O D | apply b0E D | apply S.pat | apply bounds_s | apply gens_s | apply where_s | apply params_s | apply result_s | apply sign_s | apply proto_s | apply place_s | apply pat_l _ k0 | apply pat_b | apply g | apply e | apply ih k0)
   | with_reducible refine a8J hword ?_ ?_
   | with_reducible apply a8K
   | with_reducible apply b1z
   | dsimp only [PK,LK,QK,Bool.not_true,Bool.not_false]
   | assumption
   | omega
   | exact .inl rfl
   | exact .inr ⟨by assumption,by assumption⟩
   | with_reducible refine a5o (by assumption) ?_ ?_ ?_
   | with_reducible refine a5o rfl ?_ ?_ ?_
   | with_reducible refine b1q (by assumption) ?_ ?_ ?_
   | with_reducible refine PN.up (by assumption) ?_ ?_
   | with_reducible refine PL.up (by assumption) ?_ ?_
   | (intro _)
theorem pat_sp {l:List Tok} {size:Int} (D:Tk l):∀ n:Nat,PatSp l size (I7.fs n)
 | 0=>⟨fun _ _ _ _ _ _=>a07⟩
 | n + 1=>⟨(grpP D (pat_sp D n)).2⟩
theorem b6S {l:List Tok} {size:Int} (D:Tk l) {n:Nat}:∀ k0:Int,SN l size k0 (J8 n l k0 size):=(pat_sp D n).pat
end Go.Proofs.YtlfomdllnidliaaGreatDoor
