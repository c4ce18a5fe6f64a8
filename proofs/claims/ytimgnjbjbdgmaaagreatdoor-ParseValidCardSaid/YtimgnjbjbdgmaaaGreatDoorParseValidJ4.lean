/- Texts of ParseValid, joined. -/
import Derived.Test.YtimgnjbjbdgmaaaGreatDoorParseValidJ3
set_option maxRecDepth 100000
set_option maxHeartbeats 20000000
set_option linter.all false
namespace Go.Proofs.YtimgnjbjbdgmaaaGreatDoor.Sc
open Go Go.Vm
variable {r:MR}
def b7S (nest opn:Nat)(base:Int->List (Nat×Int)):Prop:=(nest=0 /\ ∀p,base p=[]) ∨ ∃st,nest=st.length+1 /\ ∀p,base p =(opn,p)::st
def delta (w:List UInt8):Int:=match decide (w=[40])with|true=>1|false=>match decide (w=[41])with|true=>-1|false=>0
section
variable {nest opn:Nat} {base:Int->List (Nat×Int)} (hb:b7S nest opn base)
include hb
theorem b7S.len (p:Int):(base p).length=nest:=by
 rcases hb with⟨rfl,h⟩ |⟨st,rfl,h⟩<;>rw[h]<;>rfl
theorem b7S.closes (p:Int)(b:Nat):closes b (base p) =(decide (0<nest)&&decide (p=0)&&decide (b=41)):=by
 rcases hb with⟨rfl,h⟩ |⟨st,rfl,h⟩
 ·rw[h];rfl
 rw[h];simp[Sc.closes]
theorem b7S.bump (p:Int)(w:List UInt8):bump w (base p)=base (p+delta w):=by
 rcases hb with⟨rfl,h⟩ |⟨st,rfl,h⟩
 ·rw[h,h];rfl
 rw[h,h];simp only[Sc.bump,delta];cases decide (w=[40])with
 | true=>rfl
 | false =>
  cases decide (w=[41])with
  | true=>rfl
  | false=>simp
end
section
variable {s:List UInt8} {i i0:Nat} {toks:List Tok} {st:List (Nat×Int)}
theorem a8S (h0:a0K s i0=i)(hi:s.length<=i):stepM s ⟨i0,toks,[]⟩=.done toks:=by
 simp only[stepM,h0,decide_eq_true hi]
theorem a8T {q:Nat}{p:Int}(h0:a0K s i0=i)(hi:s.length<=i):stepM s ⟨i0,toks,(q,p)::st⟩=.err 11 q:=by
 simp only[stepM,h0,decide_eq_true hi]
variable (h0:a0K s i0=i) (hi:i<s.length) (hc:closes (s.getD i 0).toNat st=false)
include h0 hi hc
theorem b0i:stepM s ⟨i0,toks,st⟩ = (match decide ((s.getD i 0).toNat = 34) with
      | true=>roomy toks i (a5Q toks st i i 4 5 (part s i st.length (i+1) []))
      | false=>match O5 (s.getD i 0)with
        | true=>roomy toks i (match a0q ((s.take (Z7 O5 s i)).drop i) (s.getD (Z7 O5 s i) 0) with
            | true=>.err 13 i
            | false=>.go ⟨Z7 O5 s i,toks++[⟨3,(s.take (Z7 O5 s i)).drop i,i,Z7 O5 s i-i⟩],st⟩)
        | false=>match a1m (s.getD i 0)with
          | true=>roomy toks i (match ltB 24 ((s.take (Z7 a0Z s i)).drop i).length with
              | true=>.err 14 i
              | false=>.go ⟨Z7 a0Z s i,toks++[⟨a6Q ((s.take (Z7 a0Z s i)).drop i),(s.take (Z7 a0Z s i)).drop i,i,Z7 a0Z s i-i⟩],st⟩)
          | false=>match a2J s i 2 with
            | []=>.err 10 i
            | w=>roomy toks i (.go ⟨i+w.length,toks++[⟨8,w,i,w.length⟩],bump w st⟩)):=by
  have h1:decide (s.length<=i)=false:=by simp;omega
  unfold stepM;simp only[h0,h1,hc];cases decide ((s.getD i 0).toNat=34)with
  | true=>rfl
  | false=>cases O5 (s.getD i 0)with
    | true=>rfl
    | false=>cases a1m (s.getD i 0)with
      | true=>rfl
      | false=>cases a2J s i 2<;>rfl
theorem a6r (hq:(s.getD i 0).toNat ≠ 34) (hd:O5 (s.getD i 0) = true):stepM s ⟨i0,toks,st⟩ = roomy toks i (match a0q ((s.take (Z7 O5 s i)).drop i) (s.getD (Z7 O5 s i) 0) with
            | true=>.err 13 i
            | false=>.go ⟨Z7 O5 s i,toks++[⟨3,(s.take (Z7 O5 s i)).drop i,i,Z7 O5 s i-i⟩],st⟩):=by
  rw[b0i h0 hi hc];simp only[decide_eq_false hq,hd]
theorem a6a (hq:(s.getD i 0).toNat ≠ 34) (hd:O5 (s.getD i 0) = false) (hl:a1m (s.getD i 0) = true):stepM s ⟨i0,toks,st⟩ = roomy toks i (match ltB 24 ((s.take (Z7 a0Z s i)).drop i).length with
              | true=>.err 14 i
              | false=>.go ⟨Z7 a0Z s i,toks++[⟨a6Q ((s.take (Z7 a0Z s i)).drop i),(s.take (Z7 a0Z s i)).drop i,i,Z7 a0Z s i-i⟩],st⟩):=by
  rw[b0i h0 hi hc];simp only[decide_eq_false hq,hd,hl]
theorem a8R (hq:(s.getD i 0).toNat≠34)(hd:O5 (s.getD i 0)=false)(hl:a1m (s.getD i 0)=false)(hs:a2J s i 2=[]):stepM s ⟨i0,toks,st⟩=.err 10 i:=by
 rw[b0i h0 hi hc];simp only[decide_eq_false hq,hd,hl,hs]
theorem a6g (hq:(s.getD i 0).toNat≠34)(hd:O5 (s.getD i 0)=false)(hl:a1m (s.getD i 0)=false){w:List UInt8}(hs:a2J s i 2=w)(hw:w ≠ []):stepM s ⟨i0,toks,st⟩=roomy toks i (.go ⟨i+w.length,toks++[⟨8,w,i,w.length⟩],bump w st⟩):=by
 rw[b0i h0 hi hc];simp only[decide_eq_false hq,hd,hl,hs]
theorem a8U (hq:(s.getD i 0).toNat=34):stepM s ⟨i0,toks,st⟩=roomy toks i (a5Q toks st i i 4 5 (part s i st.length (i+1) [])):=by
 rw[b0i h0 hi hc];simp only[decide_eq_true hq]
omit h0 hi hc
theorem a7L (h:leB 3000 (toks.length:Nat)=true):roomy toks i r=.err 2 i:=by
 simp only[leB,decide_eq_true_eq]at h;simp only[roomy,decide_eq_true (show 3000<=toks.length by omega)]
theorem b1B (h:leB 3000 (toks.length:Nat)=false):roomy toks i r=r:=by
 simp only[leB,decide_eq_false_iff_not]at h;simp only[roomy,decide_eq_false (show ¬3000<=toks.length by omega)]
theorem b37 {s:List UInt8}{i:Nat}:∀n,i<=s.length ->(a2J s i n).length+i<=s.length/\(a2J s i n).length<=n:=by
 intro n hi;induction n with
 | zero=>simp only[a2J,List.length_nil];omega
 | succ k ih =>
  simp only[a2J];split
  ·rename_i h;simp only[Bool.and_eq_true,leB,decide_eq_true_eq]at h;simp only[List.length_drop,List.length_take];omega
  omega
end
theorem c42T (s:List UInt8)(i:Nat)(toks:List Tok)(c a:Int)(e:Nat)(hi:i<=s.length)(hs:s.length<4611686018427387904)(he:e=0∨e=4)(hn:toks.length<=100000)(r:Nat)(hr:Z7 O5 s i=r)(w:List UInt8)(hw:(s.take r).drop i=w)
  (hb:a0q w (s.getD r 0)=false):E env (.call 140 [.ptr 0 0]) (scE s i toks c a e)=some (.ret (.bool true) (scE s r (toks++[⟨3,w,i,r-i⟩]) c a 4)):=by
 have h:=c42 s i toks.length (a4v toks) c a e hi hs he hn (a6c toks) r hr w hw false hb;unfold scE;rw[a6W,List.length_append];exact h
theorem c44T (s:List UInt8)(i:Nat)(toks:List Tok)(c a:Int)(e:Nat)(hi:i<=s.length)(hs:s.length<4611686018427387904)(he:e=0∨e=4)(hn:toks.length<=100000)(r:Nat)(hr:Z7 a0Z s i=r)(w:List UInt8)(hw:(s.take r).drop i=w)(hw0:0<w.length)
  (hb:ltB 24 w.length=false):E env (.call 142 [.ptr 0 0]) (scE s i toks c a e)=some (.ret (.bool true) (scE s r (toks++[⟨a6Q w,w,i,r-i⟩]) c a 4)):=by
 have h:=c44 s i toks.length (a4v toks) c a e hi hs he hn (a6c toks) r hr w hw hw0 false hb;unfold scE;rw[a6W,List.length_append];exact h
theorem c06 {x:Int}(h1:-9223372036854775808<=x)(h2:x<9223372036854775808):a5E (some (.i (IntKind.wrap .i64 x)))=some (.i x):=by
 rw[wrap64 h1 h2];rfl
theorem b5X:∀(b:Bool) (l:List UInt8),a9x b l<=l.length
 | _,[]=>by simp[a9x]
 | true,b::r=>by simp only[a9x,List.length_cons];have:=b5X (nlB b) r;omega
 | false,b::r=>by
  have h1:=b5X false r;have h2:=b5X true r;simp only[a9x,List.length_cons];repeat' split
  all_goals omega
theorem b0g {s:List UInt8}{i:Nat}(h:i<=s.length):a0K s i<=s.length:=by
 have:=b5X false (s.drop i);simp only[List.length_drop]at this;unfold a0K;omega
theorem b0f {s:List UInt8}{i:Nat}:i<=a0K s i:=by unfold a0K;omega
def AllP (s:List UInt8)(nest opn:Nat)(base:Int->List (Nat×Int)):Prop:=∀(i:Nat) (toks:List Tok) (c a:Int) (e:Nat),i<=s.length->toks.length<=3000 ->(e=0∨e=4) ->
 ∃v H2,E env (.call 85 [.ptr 0 0,.i nest,.i opn]) (scE s i toks c a e)=some (.ret v H2) /\
  OutP s c a (fun i' toks'=>i<=i'/\((nest=0/\Ends s ⟨i,toks,base 0⟩ (.done toks'))∨(0<nest/\i'<s.length/\(s.getD i' 0).toNat=41 /\ ∃i0,Reach s ⟨i,toks,base 0⟩ ⟨i0,toks',base 0⟩/\a0K s i0=i')))
   (fun c' a'=>Ends s ⟨i,toks,base 0⟩ (.err c' a')) v H2
structure AS where
 j:Nat
 p:Int
 toks:List Tok
 e:Nat
end Go.Proofs.YtimgnjbjbdgmaaaGreatDoor.Sc
