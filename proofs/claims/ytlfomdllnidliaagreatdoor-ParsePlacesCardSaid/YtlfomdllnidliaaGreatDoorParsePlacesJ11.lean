/- What the functions under ParsePlaces compute, step by step, as functions in Lean: texts that were built one by one, joined. -/
import Derived.Test.YtlfomdllnidliaaGreatDoorParsePlacesJ10
set_option maxRecDepth 100000
set_option maxHeartbeats 20000000
set_option linter.unusedSimpArgs false
set_option linter.unusedVariables false
set_option linter.unusedSectionVars false
namespace Go.Proofs.YtlfomdllnidliaaGreatDoor
open Go Go.Vm
structure BlSp (l:List Tok) (size:Int) (Φ:j5):Prop where
 s_block:∀ k0:Int,SN l size k0 (Φ.F8 l k0 size)
 s_statement:∀ k0:Int,SN l size k0 (Φ.O0 l k0 size)
 s_local:∀ k0:Int,SN l size k0 (Φ.a0R l k0 size)
 s_expr:∀ k0:Int,SN l size k0 (Φ.A8 l k0 size)
 s_unary:∀ k0:Int,SN l size k0 (Φ.I9 l k0 size)
 s_postfix:∀ k0:Int,SN l size k0 (Φ.a0k l k0 size)
 s_atom:∀ k0:Int,SN l size k0 (Φ.a0F l k0 size)
 s_interp:∀ k0:Int,SN l size k0 (Φ.a0z l k0 size)
 s_closure:∀ k0:Int,SN l size k0 (Φ.a0g l k0 size)
 s_conditional:∀ k0:Int,SN l size k0 (Φ.M7 l k0 size)
 s_match:∀ k0:Int,SN l size k0 (Φ.a0S l k0 size)
 s_statements:∀ k0:Int,SL l size k0 (Φ.N7 l k0 size)
 s_args:∀ k0:Int,SL l size k0 (Φ.K7 l k0 size)
 s_climb:∀ (x:Nod) (tb:List J4),∀ (k0:Int) (K:_ -> Prop),(∀ x q,k0 < q -> q <= l.length -> PN l size k0 q x -> K (.ok (x,q))) -> (∀ y,K (.pan y)) -> ∀ a:Int,0 <= k0 -> k0 < a -> a <= l.length -> PN l size k0 a x -> Wp (Φ.O4 x tb l a size) K
 s_one:∀ op:Int,∀ (k0:Int) (K:_ -> Prop),(∀ ys q,k0 + 1 < q -> q <= l.length -> PL l size (k0 + 1) q ys -> K (.ok (ys,H6 l size k0.toNat,q))) -> (∀ y,K (.pan y)) -> 0 <= k0 -> k0 < l.length -> w64 (k0 + 1) = k0 + 1 -> Wp (Φ.Y9 op l k0 size) K
theorem grpC1 {l:List Tok} {size:Int} (D:Tk l) {n:Nat} {Φ:j5} (S:BlSp l size Φ) {op:Int} {x:Nod} {tb:List J4} :
  (∀ m:Nat,LA l size (O7 n Φ size l m)) /\
  (∀ m:Nat,LB l size (V9 n Φ size l m)) /\
  (∀ m:Nat,LA l size (Y4 n Φ size l m)) /\
  (∀ m:Nat,LB l size (V8 n Φ size l m)):=by
 obtain ⟨bounds_l,bounds_s,gens_l,gens_s⟩:=grpA D (n:=n) (size:=size)
 obtain ⟨where_l,where_s,params_l,params_s,result_s,sign_s,proto_l5,proto_l12,proto_s,place_l,place_s⟩:=grpB D (n:=n) (size:=size)
 have stats_l:∀ m:Nat,LA l size (O7 n Φ size l m):=?_
 have match_l:∀ m:Nat,LB l size (V9 n Φ size l m):=?_
 have args_l:∀ m:Nat,LA l size (Y4 n Φ size l m):=?_
 have atom_l:∀ m:Nat,LB l size (V8 n Φ size l m):=?_
 exact ⟨stats_l,match_l,args_l,atom_l⟩
 all_goals try (intro (m:Nat); induction m with
  | zero=>intro _ _ _ _; intros; exact a07
  | succ m ih=>?_)
 all_goals
  intro k0 K g e
  try intro (a:Int)
  intros
  try have hw:=w1 D (a:=a) (by omega) (by omega)
  first | rw [O7.eq_2] | rw [V9.eq_2] | rw [Y4.eq_2] | rw [V8.eq_2]
 all_goals
  repeat' first
   | (with_reducible first
   | apply a4R | apply a07 | apply a2d | apply a4X | apply a4Y | apply wp_bind | apply b1y | apply b1x | apply b1h | apply a99 | apply a6d | apply a3a | apply a3S | apply a8G | apply a0s | apply a8B | apply a8A | apply a6f | apply a7g D | apply a8u D | apply b24 D | apply b1p D | apply a7C D | apply b0y D | apply a8I D | apply a3T D | apply a3P D | apply a8t D | apply a3R D | apply a4F D | apply b3O D | apply b0E D | apply b6S D | apply S.s_block | apply S.s_statement | apply S.s_local | apply S.s_expr | apply S.s_unary | apply S.s_postfix | apply S.s_atom | apply S.s_interp | apply S.s_closure | apply S.s_conditional | apply S.s_match | apply S.s_statements | apply S.s_args | apply S.s_climb _ _ a | apply S.s_climb _ _ k0 | apply S.s_one _ | apply bounds_s | apply gens_s | apply where_s | apply params_s | apply result_s | apply sign_s | apply proto_s | apply place_s | apply stats_l _ k0 | apply match_l _ k0 | apply args_l _ k0 | apply atom_l _ k0 | apply g | apply e | apply ih k0)
   | with_reducible refine a8J hword ?_ ?_
   | with_reducible apply a8K
   | with_reducible apply b1z
   | dsimp only [PK,LK,QK,Bool.not_true,Bool.not_false]
   | assumption
   | omega
   | exact .inl rfl
   | exact .inr ⟨by assumption,by assumption⟩
   | with_reducible refine a5o (by assumption) ?_ ?_ ?_
   | with_reducible refine a5o rfl ?_ ?_ ?_
   | with_reducible refine b1q (by assumption) ?_ ?_ ?_
   | with_reducible refine PN.up (by assumption) ?_ ?_
   | with_reducible refine PL.up (by assumption) ?_ ?_
   | (intro _)
theorem grpC2 {l:List Tok} {size:Int} (D:Tk l) {n:Nat} {Φ:j5} (S:BlSp l size Φ) {op:Int} {x:Nod} {tb:List J4} :
  (∀ (m:Nat) (k:Int) (K:_ -> Prop),(∀ x q,k < q -> q <= l.length -> PN l size k q x -> K (.ok (x,q))) -> (∀ y,K (.pan y)) -> ∀ (a:Int) (xs:List Nod) (s:Str) (p:Int),0 <= k -> k < a -> a <= l.length -> PL l size k a xs -> Wp (Y3 n Φ (H6 l size k.toNat) size l m a xs s p) K) /\
  (∀ (m:Nat) (k:Int) (K:_ -> Prop),(∀ x q,k < q -> q <= l.length -> PN l size k q x -> K (.ok (x,q))) -> (∀ y,K (.pan y)) -> ∀ (a:Int) (b:Bool) (x:Nod),0 <= k -> k < a -> a <= l.length -> PN l size k a x -> Wp (M4 n Φ size l m b a x) K) /\
  (∀ (m:Nat) (k:Int) (K:_ -> Prop),(∀ j x q,k < q -> q <= l.length -> PN l size k q x -> K (.brk (j,q,x))) -> (∀ y,K (.out (.pan y))) -> ∀ (a c i:Int) (x:Nod),0 <= k -> k < a -> a <= l.length -> PN l size k a x -> Wp (Q6 n Φ size tb l m c i a x) K) /\
  (∀ (m:Nat) (k:Int) (K:_ -> Prop),(∀ x q,k < q -> q <= l.length -> PN l size k q x -> K (.brk (q,x))) -> (∀ y,K (.out (.pan y))) -> ∀ (a i:Int) (x:Nod),0 <= k -> k < a -> a <= l.length -> PN l size k a x -> Wp (L6 n Φ tb size l m i a x) K):=by
 obtain ⟨bounds_l,bounds_s,gens_l,gens_s⟩:=grpA D (n:=n) (size:=size)
 obtain ⟨where_l,where_s,params_l,params_s,result_s,sign_s,proto_l5,proto_l12,proto_s,place_l,place_s⟩:=grpB D (n:=n) (size:=size)
 have interp_l:∀ (m:Nat) (k:Int) (K:_ -> Prop),(∀ x q,k < q -> q <= l.length -> PN l size k q x -> K (.ok (x,q))) -> (∀ y,K (.pan y)) -> ∀ (a:Int) (xs:List Nod) (s:Str) (p:Int),0 <= k -> k < a -> a <= l.length -> PL l size k a xs -> Wp (Y3 n Φ (H6 l size k.toNat) size l m a xs s p) K:=?_
 have post_l:∀ (m:Nat) (k:Int) (K:_ -> Prop),(∀ x q,k < q -> q <= l.length -> PN l size k q x -> K (.ok (x,q))) -> (∀ y,K (.pan y)) -> ∀ (a:Int) (b:Bool) (x:Nod),0 <= k -> k < a -> a <= l.length -> PN l size k a x -> Wp (M4 n Φ size l m b a x) K:=?_
 have climb_l6:∀ (m:Nat) (k:Int) (K:_ -> Prop),(∀ j x q,k < q -> q <= l.length -> PN l size k q x -> K (.brk (j,q,x))) -> (∀ y,K (.out (.pan y))) -> ∀ (a c i:Int) (x:Nod),0 <= k -> k < a -> a <= l.length -> PN l size k a x -> Wp (Q6 n Φ size tb l m c i a x) K:=?_
 have climb_l3:∀ (m:Nat) (k:Int) (K:_ -> Prop),(∀ x q,k < q -> q <= l.length -> PN l size k q x -> K (.brk (q,x))) -> (∀ y,K (.out (.pan y))) -> ∀ (a i:Int) (x:Nod),0 <= k -> k < a -> a <= l.length -> PN l size k a x -> Wp (L6 n Φ tb size l m i a x) K:=?_
 exact ⟨interp_l,post_l,climb_l6,climb_l3⟩
 all_goals try (intro (m:Nat); induction m with
  | zero=>intro _ _ _ _; intros; exact a07
  | succ m ih=>?_)
 all_goals
  intro k0 K g e
  try intro (a:Int)
  intros
  try have hw:=w1 D (a:=a) (by omega) (by omega)
  first | rw [Y3.eq_2] | rw [M4.eq_2] | rw [Q6.eq_2] | rw [L6.eq_2]
 all_goals
  repeat' first
   | (with_reducible first
   | apply a4R | apply a07 | apply a2d | apply a4X | apply a4Y | apply wp_bind | apply b1y | apply b1x | apply b1h | apply a99 | apply a6d | apply a3a | apply a3S | apply a8G | apply a0s | apply a8B | apply a8A | apply a6f | apply a7g D | apply a8u D | apply b24 D | apply b1p D | apply a7C D | apply b0y D | apply a8I D | apply a3T D | apply a3P D | apply a8t D | apply a3R D | apply a4F D | apply b3O D | apply b0E D | apply b6S D | apply S.s_block | apply S.s_statement | apply S.s_local | apply S.s_expr | apply S.s_unary | apply S.s_postfix | apply S.s_atom | apply S.s_interp | apply S.s_closure | apply S.s_conditional | apply S.s_match | apply S.s_statements | apply S.s_args | apply S.s_climb _ _ a | apply S.s_climb _ _ k0 | apply S.s_one _ | apply bounds_s | apply gens_s | apply where_s | apply params_s | apply result_s | apply sign_s | apply proto_s | apply place_s | apply interp_l _ k0 | apply post_l _ k0 | apply climb_l6 _ k0 | apply climb_l3 _ k0 | apply g | apply e | apply ih k0)
   | with_reducible refine a8J hword ?_ ?_
   | with_reducible apply a8K
   | with_reducible apply b1z
   | dsimp only [PK,LK,QK,Bool.not_true,Bool.not_false]
   | assumption
   | omega
   | exact .inl rfl
   | exact .inr ⟨by assumption,by assumption⟩
   | with_reducible refine a5o (by assumption) ?_ ?_ ?_
   | with_reducible refine a5o rfl ?_ ?_ ?_
   | with_reducible refine b1q (by assumption) ?_ ?_ ?_
   | with_reducible refine PN.up (by assumption) ?_ ?_
   | with_reducible refine PL.up (by assumption) ?_ ?_
   | (intro _)
theorem grpC3 {l:List Tok} {size:Int} (D:Tk l) {n:Nat} {Φ:j5} (S:BlSp l size Φ) {op:Int} {x:Nod} {tb:List J4} :
  (∀ k0:Int,SN l size k0 (a0J n Φ l k0 size)) /\
  (∀ k0:Int,SN l size k0 (I8 n Φ l k0 size)) /\
  (∀ k0:Int,SN l size k0 (a0K n Φ l k0 size)) /\
  (∀ k0:Int,SN l size k0 (a01 n Φ l k0 size)):=by
 obtain ⟨bounds_l,bounds_s,gens_l,gens_s⟩:=grpA D (n:=n) (size:=size)
 obtain ⟨where_l,where_s,params_l,params_s,result_s,sign_s,proto_l5,proto_l12,proto_s,place_l,place_s⟩:=grpB D (n:=n) (size:=size)
 obtain ⟨stats_l,match_l,args_l,atom_l⟩:=grpC1 D S (op:=op) (x:=x) (tb:=tb) (n:=n) (size:=size)
 obtain ⟨interp_l,post_l,climb_l6,climb_l3⟩:=grpC2 D S (op:=op) (x:=x) (tb:=tb) (n:=n) (size:=size)
 have block_b:∀ k0:Int,SN l size k0 (a0J n Φ l k0 size):=?_
 have state_b:∀ k0:Int,SN l size k0 (I8 n Φ l k0 size):=?_
 have local_b:∀ k0:Int,SN l size k0 (a0K n Φ l k0 size):=?_
 have expr_b:∀ k0:Int,SN l size k0 (a01 n Φ l k0 size):=?_
 exact ⟨block_b,state_b,local_b,expr_b⟩
 all_goals try (intro (m:Nat); induction m with
  | zero=>intro _ _ _ _; intros; exact a07
  | succ m ih=>?_)
 all_goals
  intro k0 K g e
  try intro (a:Int)
  intros
  try have hw:=w1 D (a:=a) (by omega) (by omega)
  first | unfold a0J | (unfold I8; refine wp_bind (wp_mono (P:=fun w=>w = [] ∨ (k0 < l.length /\ w64 (k0 + 1) = k0 + 1)) ?_ fun w hword=>?_)) | unfold a0K | unfold a01
 all_goals
  repeat' first
   | (with_reducible first
   | apply a4R | apply a07 | apply a2d | apply a4X | apply a4Y | apply wp_bind | apply b1y | apply b1x | apply b1h | apply a99 | apply a6d | apply a3a | apply a3S | apply a8G | apply a0s | apply a8B | apply a8A | apply a6f | apply a7g D | apply a8u D | apply b24 D | apply b1p D | apply a7C D | apply b0y D | apply a8I D | apply a3T D | apply a3P D | apply a8t D | apply a3R D | apply a4F D | apply b3O D | apply b0E D | apply b6S D | apply S.s_block | apply S.s_statement | apply S.s_local | apply S.s_expr | apply S.s_unary | apply S.s_postfix | apply S.s_atom | apply S.s_interp | apply S.s_closure | apply S.s_conditional | apply S.s_match | apply S.s_statements | apply S.s_args | apply S.s_climb _ _ a | apply S.s_climb _ _ k0 | apply S.s_one _ | apply bounds_s | apply gens_s | apply where_s | apply params_s | apply result_s | apply sign_s | apply proto_s | apply place_s | apply stats_l _ k0 | apply match_l _ k0 | apply args_l _ k0 | apply atom_l _ k0 | apply interp_l _ k0 | apply post_l _ k0 | apply climb_l6 _ k0 | apply climb_l3 _ k0 | apply block_b | apply state_b | apply local_b | apply expr_b | apply g | apply e | apply ih k0)
   | with_reducible refine a8J hword ?_ ?_
   | with_reducible apply a8K
   | with_reducible apply b1z
   | dsimp only [PK,LK,QK,Bool.not_true,Bool.not_false]
   | assumption
   | omega
   | exact .inl rfl
   | exact .inr ⟨by assumption,by assumption⟩
   | with_reducible refine a5o (by assumption) ?_ ?_ ?_
   | with_reducible refine a5o rfl ?_ ?_ ?_
   | with_reducible refine b1q (by assumption) ?_ ?_ ?_
   | with_reducible refine PN.up (by assumption) ?_ ?_
   | with_reducible refine PL.up (by assumption) ?_ ?_
   | (intro _)
theorem grpC4 {l:List Tok} {size:Int} (D:Tk l) {n:Nat} {Φ:j5} (S:BlSp l size Φ) {op:Int} {x:Nod} {tb:List J4} :
  (∀ k0:Int,SN l size k0 (a0M n Φ l k0 size)) /\
  (∀ k0:Int,SN l size k0 (a0l n Φ l k0 size)) /\
  (∀ k0:Int,SN l size k0 (a0b n Φ l k0 size)) /\
  (∀ k0:Int,SN l size k0 (a0v n Φ l k0 size)) /\
  (∀ k0:Int,SN l size k0 (a0h n Φ l k0 size)):=by
 obtain ⟨bounds_l,bounds_s,gens_l,gens_s⟩:=grpA D (n:=n) (size:=size)
 obtain ⟨where_l,where_s,params_l,params_s,result_s,sign_s,proto_l5,proto_l12,proto_s,place_l,place_s⟩:=grpB D (n:=n) (size:=size)
 obtain ⟨stats_l,match_l,args_l,atom_l⟩:=grpC1 D S (op:=op) (x:=x) (tb:=tb) (n:=n) (size:=size)
 obtain ⟨interp_l,post_l,climb_l6,climb_l3⟩:=grpC2 D S (op:=op) (x:=x) (tb:=tb) (n:=n) (size:=size)
 have unary_b:∀ k0:Int,SN l size k0 (a0M n Φ l k0 size):=?_
 have postf_b:∀ k0:Int,SN l size k0 (a0l n Φ l k0 size):=?_
 have atom_b:∀ k0:Int,SN l size k0 (a0b n Φ l k0 size):=?_
 have inter_b:∀ k0:Int,SN l size k0 (a0v n Φ l k0 size):=?_
 have closu_b:∀ k0:Int,SN l size k0 (a0h n Φ l k0 size):=?_
 exact ⟨unary_b,postf_b,atom_b,inter_b,closu_b⟩
 all_goals try (intro (m:Nat); induction m with
  | zero=>intro _ _ _ _; intros; exact a07
  | succ m ih=>?_)
 all_goals
  intro k0 K g e
  try intro (a:Int)
  intros
  try have hw:=w1 D (a:=a) (by omega) (by omega)
  first | unfold a0M | unfold a0l | unfold a0b | unfold a0v | unfold a0h
 all_goals
  repeat' first
   | (with_reducible first
   | apply a4R | apply a07 | apply a2d | apply a4X | apply a4Y | apply wp_bind | apply b1y | apply b1x | apply b1h | apply a99 | apply a6d | apply a3a | apply a3S | apply a8G | apply a0s | apply a8B | apply a8A | apply a6f | apply a7g D | apply a8u D | apply b24 D | apply b1p D | apply a7C D | apply b0y D | apply a8I D | apply a3T D | apply a3P D | apply a8t D | apply a3R D | apply a4F D | apply b3O D | apply b0E D | apply b6S D | apply S.s_block | apply S.s_statement | apply S.s_local | apply S.s_expr | apply S.s_unary | apply S.s_postfix | apply S.s_atom | apply S.s_interp | apply S.s_closure | apply S.s_conditional | apply S.s_match | apply S.s_statements | apply S.s_args | apply S.s_climb _ _ a | apply S.s_climb _ _ k0 | apply S.s_one _ | apply bounds_s | apply gens_s | apply where_s | apply params_s | apply result_s | apply sign_s | apply proto_s | apply place_s | apply stats_l _ k0 | apply match_l _ k0 | apply args_l _ k0 | apply atom_l _ k0 | apply interp_l _ k0 | apply post_l _ k0 | apply climb_l6 _ k0 | apply climb_l3 _ k0 | apply unary_b | apply postf_b | apply atom_b | apply inter_b | apply closu_b | apply g | apply e | apply ih k0)
   | with_reducible refine a8J hword ?_ ?_
   | with_reducible apply a8K
   | with_reducible apply b1z
   | dsimp only [PK,LK,QK,Bool.not_true,Bool.not_false]
   | assumption
   | omega
   | exact .inl rfl
   | exact .inr ⟨by assumption,by assumption⟩
   | with_reducible refine a5o (by assumption) ?_ ?_ ?_
   | with_reducible refine a5o rfl ?_ ?_ ?_
   | with_reducible refine b1q (by assumption) ?_ ?_ ?_
   | with_reducible refine PN.up (by assumption) ?_ ?_
   | with_reducible refine PL.up (by assumption) ?_ ?_
   | (intro _)
theorem grpC5 {l:List Tok} {size:Int} (D:Tk l) {n:Nat} {Φ:j5} (S:BlSp l size Φ) {op:Int} {x:Nod} {tb:List J4} :
  (∀ k0:Int,SN l size k0 (V5 n Φ l k0 size)) /\
  (∀ k0:Int,SN l size k0 (a0L n Φ l k0 size)) /\
  (∀ k0:Int,SL l size k0 (X7 n Φ l k0 size)) /\
  (∀ k0:Int,SL l size k0 (a00 n Φ l k0 size)) /\
  (∀ (k0:Int) (K:_ -> Prop),(∀ x q,k0 < q -> q <= l.length -> PN l size k0 q x -> K (.ok (x,q))) -> (∀ y,K (.pan y)) -> ∀ a:Int,0 <= k0 -> k0 < a -> a <= l.length -> PN l size k0 a x -> Wp (a1u n Φ x tb l a size) K) /\
  (∀ (k0:Int) (K:_ -> Prop),(∀ ys q,k0 + 1 < q -> q <= l.length -> PL l size (k0 + 1) q ys -> K (.ok (ys,H6 l size k0.toNat,q))) -> (∀ y,K (.pan y)) -> 0 <= k0 -> k0 < l.length -> w64 (k0 + 1) = k0 + 1 -> Wp (a0p n Φ op l k0 size) K):=by
 obtain ⟨bounds_l,bounds_s,gens_l,gens_s⟩:=grpA D (n:=n) (size:=size)
 obtain ⟨where_l,where_s,params_l,params_s,result_s,sign_s,proto_l5,proto_l12,proto_s,place_l,place_s⟩:=grpB D (n:=n) (size:=size)
 obtain ⟨stats_l,match_l,args_l,atom_l⟩:=grpC1 D S (op:=op) (x:=x) (tb:=tb) (n:=n) (size:=size)
 obtain ⟨interp_l,post_l,climb_l6,climb_l3⟩:=grpC2 D S (op:=op) (x:=x) (tb:=tb) (n:=n) (size:=size)
 have condi_b:∀ k0:Int,SN l size k0 (V5 n Φ l k0 size):=?_
 have match_b:∀ k0:Int,SN l size k0 (a0L n Φ l k0 size):=?_
 have states_b:∀ k0:Int,SL l size k0 (X7 n Φ l k0 size):=?_
 have argss_b:∀ k0:Int,SL l size k0 (a00 n Φ l k0 size):=?_
 have climb_b:∀ (k0:Int) (K:_ -> Prop),(∀ x q,k0 < q -> q <= l.length -> PN l size k0 q x -> K (.ok (x,q))) -> (∀ y,K (.pan y)) -> ∀ a:Int,0 <= k0 -> k0 < a -> a <= l.length -> PN l size k0 a x -> Wp (a1u n Φ x tb l a size) K:=?_
 have one_b:∀ (k0:Int) (K:_ -> Prop),(∀ ys q,k0 + 1 < q -> q <= l.length -> PL l size (k0 + 1) q ys -> K (.ok (ys,H6 l size k0.toNat,q))) -> (∀ y,K (.pan y)) -> 0 <= k0 -> k0 < l.length -> w64 (k0 + 1) = k0 + 1 -> Wp (a0p n Φ op l k0 size) K:=?_
 exact ⟨condi_b,match_b,states_b,argss_b,climb_b,one_b⟩
 all_goals try (intro (m:Nat); induction m with
  | zero=>intro _ _ _ _; intros; exact a07
  | succ m ih=>?_)
 all_goals
  intro k0 K g e
  try intro (a:Int)
  intros
  try have hw:=w1 D (a:=a) (by omega) (by omega)
  first | unfold V5 | unfold a0L | unfold X7 | unfold a00 | unfold a1u | unfold a0p
 all_goals
  repeat' first
   | (with_reducible first
   | apply a4R | apply a07 | apply a2d | apply a4X | apply a4Y | apply wp_bind | apply b1y | apply b1x | apply b1h | apply a99 | apply a6d | apply a3a | apply a3S | apply a8G | apply a0s | apply a8B | apply a8A | apply a6f | apply a7g D | apply a8u D | apply b24 D | apply b1p D | apply a7C D | apply b0y D | apply a8I D | apply a3T D | apply a3P D | apply a8t D | apply a3R D | apply a4F D | apply b3O D | apply b0E D | apply b6S D | apply S.s_block | apply S.s_statement | apply S.s_local | apply S.s_expr | apply S.s_unary | apply S.s_postfix | apply S.s_atom | apply S.s_interp | apply S.s_closure | apply S.s_conditional | apply S.s_match | apply S.s_statements | apply S.s_args | apply S.s_climb _ _ a | apply S.s_climb _ _ k0 | apply S.s_one _ | apply bounds_s | apply gens_s | apply where_s | apply params_s | apply result_s | apply sign_s | apply proto_s | apply place_s | apply stats_l _ k0 | apply match_l _ k0 | apply args_l _ k0 | apply atom_l _ k0 | apply interp_l _ k0 | apply post_l _ k0 | apply climb_l6 _ k0 | apply climb_l3 _ k0 | apply condi_b | apply match_b | apply states_b | apply argss_b | apply climb_b | apply one_b | apply g | apply e | apply ih k0)
   | with_reducible refine a8J hword ?_ ?_
   | with_reducible apply a8K
   | with_reducible apply b1z
   | dsimp only [PK,LK,QK,Bool.not_true,Bool.not_false]
   | assumption
   | omega
   | exact .inl rfl
   | exact .inr ⟨by assumption,by assumption⟩
   | with_reducible refine a5o (by assumption) ?_ ?_ ?_
   | with_reducible refine a5o rfl ?_ ?_ ?_
   | with_reducible refine b1q (by assumption) ?_ ?_ ?_
   | with_reducible refine PN.up (by assumption) ?_ ?_
   | with_reducible refine PL.up (by assumption) ?_ ?_
   | (intro _)
end Go.Proofs.YtlfomdllnidliaaGreatDoor
