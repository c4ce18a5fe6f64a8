/- Texts of ParseParens, joined. -/
import Derived.Test.YtjhfloacokgdiaaGreatDoorParseParensJ20
set_option maxRecDepth 100000
set_option maxHeartbeats 20000000
set_option linter.unusedSimpArgs false
set_option linter.unusedVariables false
set_option linter.unusedSectionVars false
namespace Go.Proofs.YtjhfloacokgdiaaGreatDoor
open Go Go.Vm
section
variable {V:Int->Str->Prop} {l l':List Tok} {size size':Int} (C:Cx V l l')
include C
theorem he_atom {n:Nat} (H:HE V l l' size size' n):∀ {k:Nat},k <= l.length -> 200000 + 40 * (l.length - k) + 10 <= n + 1 -> SN l (G V 0) k ((d9.fs (n + 1)).I4 l k size) ((d9.fs (n + 1)).I4 l' k size'):=by
      have hl:=C.hl
      intro k hk hn
      have pr1:=fun{k:Nat} h1 h2=>H.f_interp (k:=k) h1 h2
      have pr2:=fun{k:Nat} h1 h2=>H.f_expr (k:=k) h1 h2
      have pr3:=fun{k:Nat} h1 h2=>H.f_closure (k:=k) h1 h2
      have pr4:=fun{k:Nat} {b:Bool} (h1:k<=l.length)=>path_r C (size:=size) (size':=size') (n:=n) (b:=b) h1 (by omega)
      have pr5:=fun{k:Nat} h1 h2=>H.f_args (k:=k) h1 h2
      have lp1:=fun{k':Nat} {xs ys:List Nod} h1 h2 h3 h4 h5=>c1d C (size:=size) (size':=size') (R0:=0) (n:=n) (k0:=k) (Φ:=d9.fs n) (fun g1 g2=>H.f_expr g1 (by omega)) n k' xs ys h1 h2 (by omega) h3 h4 h5
      intro A Q f f' g g' hok hpan
      show S2 Q (p8 (A7 n (d9.fs n) l k size) f g) (p8 (A7 n (d9.fs n) l' k size') f' g')
      unfold A7
      exact two
theorem he_atomn {n:Nat} (H:HE V l l' size size' n):∀ {k:Nat},isK l 1 k = true -> k <= l.length -> 200000 + 40 * (l.length - k) + 10 <= n + 1 -> SN l (fun x=>G V 0 x /\ V 1 x.s) k ((d9.fs (n + 1)).I4 l k size) ((d9.fs (n + 1)).I4 l' k size'):=by
      have hl:=C.hl
      intro k hN hk hn
      have pr1:=fun{k:Nat} h1 h2=>H.f_interp (k:=k) h1 h2
      have pr2:=fun{k:Nat} h1 h2=>H.f_expr (k:=k) h1 h2
      have pr3:=fun{k:Nat} h1 h2=>H.f_closure (k:=k) h1 h2
      have pr4:=fun{k:Nat} {b:Bool} (h1:k<=l.length)=>path_r C (size:=size) (size':=size') (n:=n) (b:=b) h1 (by omega)
      have pr5:=fun{k:Nat} h1 h2=>H.f_args (k:=k) h1 h2
      have lp1:=fun{k':Nat} {xs ys:List Nod} h1 h2 h3 h4 h5=>c1d C (size:=size) (size':=size') (R0:=0) (n:=n) (k0:=k) (Φ:=d9.fs n) (fun g1 g2=>H.f_expr g1 (by omega)) n k' xs ys h1 h2 (by omega) h3 h4 h5
      intro A Q f f' g g' hok hpan
      show S2 Q (p8 (A7 n (d9.fs n) l k size) f g) (p8 (A7 n (d9.fs n) l' k size') f' g')
      unfold A7
      exact two
theorem c4I {n:Nat} (H:HE V l l' size size' n):∀ {k:Nat},k <= l.length -> 200000 + 40 * (l.length - k) + 9 <= n + 1 -> SN l (G V 0) k ((d9.fs (n + 1)).P5 l k size) ((d9.fs (n + 1)).P5 l' k size'):=by
      have hl:=C.hl
      intro k hk hn
      have lp1:=fun{k':Nat} {xs ys:List Nod} {s:Str} {a a' a0 a0':Int} h1 h2 h3 h4 h5=>b9M C (size:=size) (size':=size') (R0:=0) (n:=n) (k0:=k) (Φ:=d9.fs n) (fun g1 g2=>H.f_expr g1 (by omega)) n k' xs ys s a a' a0 a0' h1 h2 (by omega) h3 h4 h5
      intro A Q f f' g g' hok hpan
      show S2 Q (p8 (Z5 n (d9.fs n) l k size) f g) (p8 (Z5 n (d9.fs n) l' k size') f' g')
      unfold Z5
      exact two
theorem c1K {n:Nat} (H:HE V l l' size size' n):∀ {k:Nat},k <= l.length -> 200000 + 40 * (l.length - k) + 9 <= n + 1 -> SN l (G V 0) k ((d9.fs (n + 1)).O3 l k size) ((d9.fs (n + 1)).O3 l' k size'):=by
      have hl:=C.hl
      intro k hk hn
      have pr1:=fun{k:Nat} h1 h2=>H.f_stmts (k:=k) h1 h2
      have pr2:=fun{k:Nat} (h1:k<=l.length)=>params_r C (size:=size) (size':=size') (n:=n) h1 (by omega)
      have pr3:=fun{k:Nat} (h1:k<=l.length)=>result_r C (size:=size) (size':=size') (n:=n) h1 (by omega)
      intro A Q f f' g g' hok hpan
      show S2 Q (p8 (Y7 n (d9.fs n) l k size) f g) (p8 (Y7 n (d9.fs n) l' k size') f' g')
      unfold Y7
      exact two
theorem he_stmts {n:Nat} (H:HE V l l' size size' n):∀ {k:Nat},k <= l.length -> 200000 + 40 * (l.length - k) + 32 <= n + 1 -> SL l (fun z=>∀ x ∈ z,G V 1 x) k ((d9.fs (n + 1)).J2 l k size) ((d9.fs (n + 1)).J2 l' k size'):=by
      have hl:=C.hl
      intro k hk hn
      have lp1:=fun{k':Nat} {xs ys:List Nod} h1 h2 h3 h4 h5=>c4f C (size:=size) (size':=size') (R0:=0) (n:=n) (k0:=k) (Φ:=d9.fs n) (fun g1 g2=>H.f_statement g1 (by omega)) n k' xs ys h1 h2 (by omega) h3 h4 h5
      intro A Q f f' g g' hok hpan
      show S2 Q (p8 (U6 n (d9.fs n) l k size) f g) (p8 (U6 n (d9.fs n) l' k size') f' g')
      unfold U6
      exact two
theorem he_args {n:Nat} (H:HE V l l' size size' n):∀ {k:Nat},k <= l.length -> 200000 + 40 * (l.length - k) + 9 <= n + 1 -> SA l (fun z=>∀ x ∈ z,G V 6 x) k ((d9.fs (n + 1)).H9 l k size) ((d9.fs (n + 1)).H9 l' k size'):=by
      have hl:=C.hl
      intro k hk hn
      have lp1:=fun{k':Nat} {xs ys:List Nod} h1 h2 h3 h4 h5=>args_l C (size:=size) (size':=size') (R0:=0) (n:=n) (k0:=k+1) (Φ:=d9.fs n) (fun g1 g2=>H.f_expr g1 (by omega)) (by omega) n k' xs ys h1 h2 (by omega) h3 h4 h5
      intro A Q f f' g g' hok hpan
      show S2 Q (p8 (a0p n (d9.fs n) l k size) f g) (p8 (a0p n (d9.fs n) l' k size') f' g')
      unfold a0p
      exact two
theorem he_one {n:Nat} (H:HE V l l' size size' n):∀ {k:Nat} {op:Int},k < l.length -> 200000 + 40 * (l.length - k) + 26 <= n + 1 -> SO V l k ((d9.fs (n + 1)).R8 op l k size) ((d9.fs (n + 1)).R8 op l' k size'):=by
      have hl:=C.hl
      intro k op hk hn
      have pr1:=fun{k:Nat} h1 h2=>H.f_block (k:=k) h1 h2
      intro A Q f f' g g' hok hpan
      show S2 Q (p8 (a0w n (d9.fs n) op l k size) f g) (p8 (a0w n (d9.fs n) op l' k size') f' g')
      unfold a0w
      exact two
theorem he_climb {n:Nat} (H:HE V l l' size size' n):∀ {k k0:Nat} {x y:Nod} {tb:List E8},k <= l.length -> k0 < k -> x.er = y.er -> x.sz + 4 * k0 <= 4 * k -> G V 0 x -> TB tb -> 200000 + 40 * (l.length - k) + 19 <= n + 1 -> SN l (G V 0) k0 ((d9.fs (n + 1)).I8 x tb l k size) ((d9.fs (n + 1)).I8 y tb l' k size'):=by
      have hl:=C.hl
      intro k k0 x y tb hk h0 he hs hG ht hn
      have lp1:=fun{k':Nat} {x y:Nod} h1 h2 h3 h4 h5 h6=>b9s C (size:=size) (size':=size') (n:=n) (k0:=k0) (k1:=k) (Φ:=d9.fs n) (fun g1 g2=>H.f_unary g1 (by omega)) (fun g1 g2 g3 g4 g5 g6 g7=>H.f_climb g1 g2 g3 g4 g5 g6 (by omega)) ht (by omega) n 0 k' x y (Nat.zero_le _) (by have:=ht.1;omega) h1 h2 h3 h4 h5 h6
      simp only[Int.natCast_zero]at lp1
      intro A Q f f' g g' hok hpan
      show S2 Q (p8 (V9 n (d9.fs n) x tb l k size) f g) (p8 (V9 n (d9.fs n) y tb l' k size') f' g')
      unfold V9
      exact two
theorem he:∀n,HE V l l' size size' n
 | 0=>by constructor<;>(intros;omega)
 | n+1=>by
  have H:=he n
  exact⟨he_block C H,b8a C H,b5i C H,he_local C H,he_match C H,he_expr C H,he_unary C H,c1L C H,he_atom C H,c4I C H,c1K C H,he_atomn C H,he_stmts C H,he_args C H,he_one C H,he_climb C H⟩
theorem expr_r {n k:Nat}(hk:k<=l.length)(hn:400000<=n):SN l (G V 0) k (C9 n l k size) (C9 n l' k size'):=have hl:=C.hl;(he C n).f_expr hk (by omega)
end
end Go.Proofs.YtjhfloacokgdiaaGreatDoor
