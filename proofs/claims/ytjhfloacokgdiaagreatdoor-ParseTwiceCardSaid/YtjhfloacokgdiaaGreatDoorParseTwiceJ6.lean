/- Texts of ParseTwice, joined. -/
import Derived.Test.YtjhfloacokgdiaaGreatDoorParseTwiceJ5
set_option maxRecDepth 100000
set_option maxHeartbeats 20000000
set_option linter.all false
namespace Go.Proofs.YtjhfloacokgdiaaGreatDoor.Sc
open Go Go.Vm
theorem getD_out {s:List UInt8}{i:Nat}(h:s.length<=i):s.getD i 0=0:=by rw[List.getD_eq_getElem?_getD,List.getElem?_eq_none h];rfl
theorem getD_lt' {s:List UInt8}{k:Nat}(h:(s.getD k 0).toNat≠0):k<s.length:=by
 rcases Nat.lt_or_ge k s.length with h1|h1
 ·exact h1
 ·rw[getD_out h1]at h;exact absurd rfl h
def PRok (s:List UInt8)(i:Nat):PR->Prop | .err c _=>c=11∨c=12∨c=15 | .fin _ e=>i<e/\e<=s.length | .more _ e=>i<e/\e<=s.length
theorem PRok.mono {s:List UInt8}{i j:Nat}(h:i<=j):∀{r:PR},PRok s j r->PRok s i r
 | .err _ _,g=>g
 | .fin _ _,g=>⟨Nat.lt_of_le_of_lt h g.1,g.2⟩
 | .more _ _,g=>⟨Nat.lt_of_le_of_lt h g.1,g.2⟩
theorem c2U (s:List UInt8)(q ins:Nat):∀(f i:Nat) (text:List UInt8),PRok s i (a7a s q ins f i text)
 | 0,i,text=>.inl rfl
 | f+1,i,text=>by
  have ih:=c2U s q ins f;simp only[a7a];split
  ·exact .inl rfl
  ·rename_i h1;simp only[Bool.and_eq_true,decide_eq_true_eq]at h1;split
   ·exact⟨by omega,by omega⟩
   ·split
    ·exact(ih (i+1) _).mono (by omega)
    ·split
     ·exact(ih (i+2) _).mono (by omega)
     ·split
      ·exact(ih (i+2) _).mono (by omega)
      ·split
       ·exact(ih (i+2) _).mono (by omega)
       ·split
        ·rename_i h2;simp only[decide_eq_true_eq]at h2;split
         ·exact .inr (.inr rfl)
         ·have:=getD_lt' (s:=s) (k:=i+1) (by omega);exact⟨by omega,by omega⟩
        ·exact .inr (.inl rfl)
theorem c6i (s:List UInt8)(q ins i:Nat)(text:List UInt8):PRok s i (part s q ins i text):=c2U s q ins _ i text
section
variable {s:List UInt8} {i i0:Nat} {toks:List Tok} {st:List (Nat×Int)} (h0:a0W s i0=i) (hi:i<s.length)
include h0 hi
theorem a2F {q:Nat}{p:Int}(hc:closes (s.getD i 0).toNat ((q,p)::st)=true):p=0/\stepM s ⟨i0,toks,(q,p)::st⟩=roomy toks i (a2k toks st q i 7 6 (part s q st.length (i+1) [])):=by
 have h:=hc;simp only[closes,Bool.and_eq_true,decide_eq_true_eq]at h;obtain⟨rfl,h2⟩:=h;exact⟨rfl,a7E h0 hi h2⟩
end
end Go.Proofs.YtjhfloacokgdiaaGreatDoor.Sc
