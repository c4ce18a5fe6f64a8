/- Texts of ParseParens, joined. -/
import Derived.Test.YtjhfloacokgdiaaGreatDoorParseParensJ19
set_option maxRecDepth 100000
set_option maxHeartbeats 20000000
set_option linter.unusedSimpArgs false
set_option linter.unusedVariables false
set_option linter.unusedSectionVars false
namespace Go.Proofs.YtjhfloacokgdiaaGreatDoor
open Go Go.Vm
section
variable {V:Int->Str->Prop} {l l':List Tok} {size size':Int} (C:Cx V l l')
include C
theorem he_block {n:Nat} (H:HE V l l' size size' n):∀ {k:Nat},k <= l.length -> 200000 + 40 * (l.length - k) + 34 <= n + 1 -> SN l (G V 2) k ((d9.fs (n + 1)).G8 l k size) ((d9.fs (n + 1)).G8 l' k size'):=by
      have hl:=C.hl
      intro k hk hn
      have pr1:=fun{k:Nat} h1 h2=>H.f_stmts (k:=k) h1 h2
      intro A Q f f' g g' hok hpan
      show S2 Q (p8 (a0g n (d9.fs n) l k size) f g) (p8 (a0g n (d9.fs n) l' k size') f' g')
      unfold a0g
      exact two
theorem b8a {n:Nat} (H:HE V l l' size size' n):∀ {k:Nat},k <= l.length -> 200000 + 40 * (l.length - k) + 30 <= n + 1 -> SN l (G V 1) k ((d9.fs (n + 1)).I7 l k size) ((d9.fs (n + 1)).I7 l' k size'):=by
      have hl:=C.hl
      intro k hk hn
      have pr1:=fun{k:Nat} h1 h2=>H.f_local (k:=k) h1 h2
      have pr2:=fun{k:Nat} h1 h2=>H.f_conditional (k:=k) h1 h2
      have pr3:=fun{k:Nat} h1 h2=>H.f_match (k:=k) h1 h2
      have pr4:=fun{k:Nat} h1 h2=>H.f_expr (k:=k) h1 h2
      have pr5:=fun{k:Nat} h1 h2=>H.f_block (k:=k) h1 h2
      have pr6:=fun{k:Nat} {op:Int} h1 h2=>H.f_one (k:=k) (op:=op) h1 h2
      intro A Q f f' g g' hok hpan
      show S2 Q (p8 (w9 n (d9.fs n) l k size) f g) (p8 (w9 n (d9.fs n) l' k size') f' g')
      unfold w9
      exact two
theorem b5i {n:Nat} (H:HE V l l' size size' n):∀ {k:Nat},k <= l.length -> 200000 + 40 * (l.length - k) + 28 <= n + 1 -> SN l (G V 19) k ((d9.fs (n + 1)).G9 l k size) ((d9.fs (n + 1)).G9 l' k size'):=by
      have hl:=C.hl
      intro k hk hn
      have pr1:=fun{k:Nat} h1 h2=>H.f_expr (k:=k) h1 h2
      have pr2:=fun{k:Nat} h1 h2=>H.f_block (k:=k) h1 h2
      have pr3:=fun{k:Nat} h1 h2=>H.f_conditional (k:=k) h1 h2
      intro A Q f f' g g' hok hpan
      show S2 Q (p8 (L8 n (d9.fs n) l k size) f g) (p8 (L8 n (d9.fs n) l' k size') f' g')
      unfold L8
      exact two
theorem he_local {n:Nat} (H:HE V l l' size size' n):∀ {k:Nat},k <= l.length -> 200000 + 40 * (l.length - k) + 26 <= n + 1 -> SN l (G V 1) k ((d9.fs (n + 1)).I9 l k size) ((d9.fs (n + 1)).I9 l' k size'):=by
      have hl:=C.hl
      intro k hk hn
      have pr1:=fun{k:Nat} h1 h2=>H.f_expr (k:=k) h1 h2
      have pr2:=fun{k:Nat} (h1:k<=l.length)=>typ_r C (size:=size) (size':=size') (n:=n) h1 (by omega)
      intro A Q f f' g g' hok hpan
      show S2 Q (p8 (M0 n (d9.fs n) l k size) f g) (p8 (M0 n (d9.fs n) l' k size') f' g')
      unfold M0
      exact two
theorem he_match {n:Nat} (H:HE V l l' size size' n):∀ {k:Nat},k <= l.length -> 200000 + 40 * (l.length - k) + 26 <= n + 1 -> SN l (G V 1) k ((d9.fs (n + 1)).O9 l k size) ((d9.fs (n + 1)).O9 l' k size'):=by
      have hl:=C.hl
      intro k hk hn
      have pr1:=fun{k:Nat} h1 h2=>H.f_expr (k:=k) h1 h2
      have pr2:=fun{k:Nat} h1 h2=>H.f_block (k:=k) h1 h2
      have lp1:=fun{k':Nat} {xs ys:List Nod} h1 h2 h3 h4 h5=>c3J C (size:=size) (size':=size') (R0:=0) (n:=n) (k0:=k) (Φ:=d9.fs n) (fun g1 g2=>H.f_block g1 (by omega)) (by omega) n k' xs ys h1 h2 (by omega) h3 h4 h5
      intro A Q f f' g g' hok hpan
      show S2 Q (p8 (a0h n (d9.fs n) l k size) f g) (p8 (a0h n (d9.fs n) l' k size') f' g')
      unfold a0h
      exact two
theorem he_expr {n:Nat} (H:HE V l l' size size' n):∀ {k:Nat},k <= l.length -> 200000 + 40 * (l.length - k) + 20 <= n + 1 -> SN l (G V 0) k ((d9.fs (n + 1)).C9 l k size) ((d9.fs (n + 1)).C9 l' k size'):=by
      have hl:=C.hl
      intro k hk hn
      have pr1:=fun{k:Nat} h1 h2=>H.f_unary (k:=k) h1 h2
      have pc1:=fun{k':Nat} {x y:Nod} {tb:List E8} h1 h2 h3 h4 h5 h6 h7=>H.f_climb (k:=k') (k0:=k) (x:=x) (y:=y) (tb:=tb) h1 h2 h3 h4 h5 h6 h7
      have fin:=show a4d=some ()from rfl
      intro A Q f f' g g' hok hpan
      show S2 Q (p8 (X9 n (d9.fs n) l k size) f g) (p8 (X9 n (d9.fs n) l' k size') f' g')
      unfold X9
      exact two
theorem he_unary {n:Nat} (H:HE V l l' size size' n):∀ {k:Nat},k <= l.length -> 200000 + 40 * (l.length - k) + 13 <= n + 1 -> SN l (G V 0) k ((d9.fs (n + 1)).J3 l k size) ((d9.fs (n + 1)).J3 l' k size'):=by
      have hl:=C.hl
      intro k hk hn
      have pr1:=fun{k:Nat} h1 h2=>H.f_unary (k:=k) h1 h2
      have pr2:=fun{k:Nat} h1 h2=>H.f_postfix (k:=k) h1 h2
      intro A Q f f' g g' hok hpan
      show S2 Q (p8 (X3 n (d9.fs n) l k size) f g) (p8 (X3 n (d9.fs n) l' k size') f' g')
      unfold X3
      exact two
theorem c1L {n:Nat} (H:HE V l l' size size' n):∀ {k:Nat},k <= l.length -> 200000 + 40 * (l.length - k) + 11 <= n + 1 -> SN l (G V 0) k ((d9.fs (n + 1)).O4 l k size) ((d9.fs (n + 1)).O4 l' k size'):=by
      have hl:=C.hl
      intro k hk hn
      have pr1:=fun{k:Nat} h1 h2 h3=>H.f_atomn (k:=k) h1 h2 h3
      have pr2:=fun{k:Nat} h1 h2=>H.f_atom (k:=k) h1 h2
      have lp1:=fun{k':Nat} {x y:Nod} h1 h2 h3 h4 h5=>post0 C (size:=size) (size':=size') (R0:=0) (n:=n) (k0:=k) (Φ:=d9.fs n) (fun g1 g2=>H.f_args g1 (by omega)) n k' x y h1 h2 (by omega) h3 h4 h5
      have lp2:=fun{k':Nat} {x y:Nod} h1 h2 h3 h4 (h5:G V 0 x/\V 1 x.s)=>post1 C (size:=size) (size':=size') (R0:=0) (n:=n) (k0:=k) (Φ:=d9.fs n) (fun g1 g2=>H.f_args g1 (by omega)) n k' x y h1 h2 (by omega) h3 h4 h5.1 h5.2
      intro A Q f f' g g' hok hpan
      show S2 Q (p8 (O6 n (d9.fs n) l k size) f g) (p8 (O6 n (d9.fs n) l' k size') f' g')
      unfold O6
      simp only[NF]
      rw[a0n C.hl hk,a0n C.hl' (C.hk' hk),C.isK']
      cases hb:isK l 1 k
      · clear pr1 lp2
        simp only[NF]
        exact two
      · clear pr2
        have pr1:=fun{k':Nat} (e:isK l 1 k'=true)=>pr1 e
        simp only[NF]
        refine pr1 hb hk (by omega) _ _ _ _ _ _ ?_ ?_
        · clear lp1
          exact two
        · exact two
end
end Go.Proofs.YtjhfloacokgdiaaGreatDoor
