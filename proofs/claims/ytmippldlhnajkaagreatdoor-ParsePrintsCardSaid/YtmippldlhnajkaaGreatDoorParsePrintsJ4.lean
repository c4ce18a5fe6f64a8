/- Texts of ParsePrints, joined. -/
import Derived.Test.YtmippldlhnajkaaGreatDoorParsePrintsJ3
set_option maxRecDepth 100000
set_option maxHeartbeats 20000000
set_option linter.unusedSimpArgs false
set_option linter.unusedVariables false
set_option linter.unusedSectionVars false
namespace Go.Proofs.YtmippldlhnajkaaGreatDoor.Sc
open Go Go.Vm
def c1H (nest opn:Nat)(base:Int->List (Nat×Int)):Prop:=(nest=0 /\ ∀p,base p=[]) ∨ ∃st,nest=st.length+1 /\ ∀p,base p =(opn,p)::st
def delta (w:List UInt8):Int:=match decide (w=[40])with|true=>1|false=>match decide (w=[41])with|true=>-1|false=>0
section
variable {nest opn:Nat} {base:Int->List (Nat×Int)} (hb:c1H nest opn base)
include hb
theorem c1H.len (p:Int):(base p).length=nest:=by
 rcases hb with⟨rfl,h⟩ |⟨st,rfl,h⟩<;>rw[h]<;>rfl
theorem c1H.closes (p:Int)(b:Nat):closes b (base p) =(decide (0<nest)&&decide (p=0)&&decide (b=41)):=by
 rcases hb with⟨rfl,h⟩ |⟨st,rfl,h⟩
 ·rw[h];rfl
 ·rw[h];simp[Sc.closes]
theorem c1H.bump (p:Int)(w:List UInt8):bump w (base p)=base (p+delta w):=by
 rcases hb with⟨rfl,h⟩ |⟨st,rfl,h⟩
 ·rw[h,h];rfl
 ·rw[h,h];simp only[Sc.bump,delta];cases decide (w=[40])with
  | true=>rfl
  | false =>
   cases decide (w=[41])with
   | true=>rfl
   | false=>simp
end
section
variable {s:List UInt8} {i i0:Nat} {toks:List Tok} {st:List (Nat×Int)}
theorem a7U (h0:a0C s i0=i)(hi:s.length<=i):stepM s ⟨i0,toks,[]⟩=.done toks:=by
 simp only[stepM,h0,decide_eq_true hi]
theorem a7V {q:Nat}{p:Int}(h0:a0C s i0=i)(hi:s.length<=i):stepM s ⟨i0,toks,(q,p)::st⟩=.err 11 q:=by
 simp only[stepM,h0,decide_eq_true hi]
variable (h0:a0C s i0=i) (hi:i<s.length) (hc:closes (s.getD i 0).toNat st=false)
include h0 hi hc
theorem a9U:stepM s ⟨i0,toks,st⟩ = (match decide ((s.getD i 0).toNat = 34) with
      | true=>roomy toks i (a3y toks st i i 4 5 (part s i st.length (i+1) []))
      | false=>match M0 (s.getD i 0)with
        | true=>roomy toks i (match a3x ((s.take (Z7 M0 s i)).drop i) (s.getD (Z7 M0 s i) 0) with
            | true=>.err 13 i
            | false=>.go ⟨Z7 M0 s i,toks++[⟨3,(s.take (Z7 M0 s i)).drop i,i,Z7 M0 s i-i⟩],st⟩)
        | false=>match a0x (s.getD i 0)with
          | true=>roomy toks i (match ltB 24 ((s.take (Z7 a0X s i)).drop i).length with
              | true=>.err 14 i
              | false=>.go ⟨Z7 a0X s i,toks++[⟨a9w ((s.take (Z7 a0X s i)).drop i),(s.take (Z7 a0X s i)).drop i,i,Z7 a0X s i-i⟩],st⟩)
          | false=>match a2a s i 2 with
            | []=>.err 10 i
            | w=>roomy toks i (.go ⟨i+w.length,toks++[⟨8,w,i,w.length⟩],bump w st⟩)):=by
  have h1:decide (s.length<=i)=false:=by simp;omega
  unfold stepM;simp only[h0,h1,hc];cases decide ((s.getD i 0).toNat=34)with
  | true=>rfl
  | false=>cases M0 (s.getD i 0)with
    | true=>rfl
    | false=>cases a0x (s.getD i 0)with
      | true=>rfl
      | false=>cases a2a s i 2<;>rfl
theorem a5H (hq:(s.getD i 0).toNat ≠ 34) (hd:M0 (s.getD i 0) = true):stepM s ⟨i0,toks,st⟩ = roomy toks i (match a3x ((s.take (Z7 M0 s i)).drop i) (s.getD (Z7 M0 s i) 0) with
            | true=>.err 13 i
            | false=>.go ⟨Z7 M0 s i,toks++[⟨3,(s.take (Z7 M0 s i)).drop i,i,Z7 M0 s i-i⟩],st⟩):=by
  rw[a9U h0 hi hc];simp only[decide_eq_false hq,hd]
theorem a4S (hq:(s.getD i 0).toNat ≠ 34) (hd:M0 (s.getD i 0) = false) (hl:a0x (s.getD i 0) = true):stepM s ⟨i0,toks,st⟩ = roomy toks i (match ltB 24 ((s.take (Z7 a0X s i)).drop i).length with
              | true=>.err 14 i
              | false=>.go ⟨Z7 a0X s i,toks++[⟨a9w ((s.take (Z7 a0X s i)).drop i),(s.take (Z7 a0X s i)).drop i,i,Z7 a0X s i-i⟩],st⟩):=by
  rw[a9U h0 hi hc];simp only[decide_eq_false hq,hd,hl]
theorem a7T (hq:(s.getD i 0).toNat≠34)(hd:M0 (s.getD i 0)=false)(hl:a0x (s.getD i 0)=false)(hs:a2a s i 2=[]):stepM s ⟨i0,toks,st⟩=.err 10 i:=by
 rw[a9U h0 hi hc];simp only[decide_eq_false hq,hd,hl,hs]
theorem a6E (hq:(s.getD i 0).toNat≠34)(hd:M0 (s.getD i 0)=false)(hl:a0x (s.getD i 0)=false){w:List UInt8}(hs:a2a s i 2=w)(hw:w ≠ []):stepM s ⟨i0,toks,st⟩=roomy toks i (.go ⟨i+w.length,toks++[⟨8,w,i,w.length⟩],bump w st⟩):=by
 rw[a9U h0 hi hc];simp only[decide_eq_false hq,hd,hl,hs]
theorem a7W (hq:(s.getD i 0).toNat=34):stepM s ⟨i0,toks,st⟩=roomy toks i (a3y toks st i i 4 5 (part s i st.length (i+1) [])):=by
 rw[a9U h0 hi hc];simp only[decide_eq_true hq]
omit h0 hi hc
theorem c7b {r:MR}(h:leB 3000 (toks.length:Nat)=true):roomy toks i r=.err 2 i:=by
 simp only[leB,decide_eq_true_eq]at h;simp only[roomy,decide_eq_true (show 3000<=toks.length by omega)]
theorem b9S {r:MR}(h:leB 3000 (toks.length:Nat)=false):roomy toks i r=r:=by
 simp only[leB,decide_eq_false_iff_not]at h;simp only[roomy,decide_eq_false (show ¬3000<=toks.length by omega)]
theorem b67 {s:List UInt8}{i:Nat}:∀n,i<=s.length ->(a2a s i n).length+i<=s.length/\(a2a s i n).length<=n:=by
 intro n hi;induction n with
 | zero=>simp only[a2a,List.length_nil];omega
 | succ k ih =>
  simp only[a2a];split
  ·rename_i h;simp only[Bool.and_eq_true,leB,decide_eq_true_eq]at h;simp only[List.length_drop,List.length_take];omega
  ·omega
end
theorem wrapI {x:Int}(h1:-9223372036854775808<=x)(h2:x<9223372036854775808):a4g (some (.i (IntKind.wrap .i64 x)))=some (.i x):=by
 rw[wrap64 h1 h2];rfl
theorem b6i:∀(b:Bool) (l:List UInt8),a8O b l<=l.length
 | _,[]=>by simp[a8O]
 | true,b::r=>by simp only[a8O,List.length_cons];have:=b6i (nlB b) r;omega
 | false,b::r=>by
  have h1:=b6i false r;have h2:=b6i true r;simp only[a8O,List.length_cons];repeat' split
  all_goals omega
theorem b1L {s:List UInt8}{i:Nat}(h:i<=s.length):a0C s i<=s.length:=by
 have:=b6i false (s.drop i);simp only[List.length_drop]at this;unfold a0C;omega
theorem b1K {s:List UInt8}{i:Nat}:i<=a0C s i:=by unfold a0C;omega
structure AS where
 j:Nat
 p:Int
 toks:List Tok
 e:Nat
end Go.Proofs.YtmippldlhnajkaaGreatDoor.Sc
