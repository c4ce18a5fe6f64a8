/- Texts of ParseRecovers, joined. -/
import Derived.Test.YtjhfloacokgdiaaGreatDoorParseRecoversJ3
set_option maxRecDepth 100000
set_option maxHeartbeats 20000000
set_option linter.all false
namespace Go.Proofs.YtjhfloacokgdiaaGreatDoor.Sc
open Go Go.Vm
variable {r:MR}
def b6z (nest opn:Nat)(base:Int->List (Nat×Int)):Prop:=(nest=0 /\ ∀p,base p=[]) ∨ ∃st,nest=st.length+1 /\ ∀p,base p =(opn,p)::st
def delta (w:List UInt8):Int:=match decide (w=[40])with|true=>1|false=>match decide (w=[41])with|true=>-1|false=>0
section
variable {nest opn:Nat} {base:Int->List (Nat×Int)} (hb:b6z nest opn base)
include hb
theorem b6z.len (p:Int):(base p).length=nest:=by
 rcases hb with⟨rfl,h⟩ |⟨st,rfl,h⟩<;>rw[h]<;>rfl
theorem b6z.closes (p:Int)(b:Nat):closes b (base p) =(decide (0<nest)&&decide (p=0)&&decide (b=41)):=by
 rcases hb with⟨rfl,h⟩ |⟨st,rfl,h⟩
 ·rw[h];rfl
 ·rw[h];simp[Sc.closes]
theorem b6z.bump (p:Int)(w:List UInt8):bump w (base p)=base (p+delta w):=by
 rcases hb with⟨rfl,h⟩ |⟨st,rfl,h⟩
 ·rw[h,h];rfl
 ·rw[h,h];simp only[Sc.bump,delta];cases decide (w=[40])with
  | true=>rfl
  | false =>
   cases decide (w=[41])with
   | true=>rfl
   | false=>simp
end
section
variable {s:List UInt8} {i i0:Nat} {toks:List Tok} {st:List (Nat×Int)}
theorem a4U (h0:a0W s i0=i)(hi:s.length<=i):stepM s ⟨i0,toks,[]⟩=.done toks:=by
 simp only[stepM,h0,decide_eq_true hi]
theorem a5R {q:Nat}{p:Int}(h0:a0W s i0=i)(hi:s.length<=i):stepM s ⟨i0,toks,(q,p)::st⟩=.err 11 q:=by
 simp only[stepM,h0,decide_eq_true hi]
variable (h0:a0W s i0=i) (hi:i<s.length) (hc:closes (s.getD i 0).toNat st=false)
include h0 hi hc
theorem a9a:stepM s ⟨i0,toks,st⟩ = (match decide ((s.getD i 0).toNat = 34) with
      | true=>roomy toks i (a2k toks st i i 4 5 (part s i st.length (i+1) []))
      | false=>match U5 (s.getD i 0)with
        | true=>roomy toks i (match a4y ((s.take (a1c U5 s i)).drop i) (s.getD (a1c U5 s i) 0) with
            | true=>.err 13 i
            | false=>.go ⟨a1c U5 s i,toks++[⟨3,(s.take (a1c U5 s i)).drop i,i,a1c U5 s i-i⟩],st⟩)
        | false=>match a1b (s.getD i 0)with
          | true=>roomy toks i (match ltB 24 ((s.take (a1c a2J s i)).drop i).length with
              | true=>.err 14 i
              | false=>.go ⟨a1c a2J s i,toks++[⟨a4F ((s.take (a1c a2J s i)).drop i),(s.take (a1c a2J s i)).drop i,i,a1c a2J s i-i⟩],st⟩)
          | false=>match a2w s i 2 with
            | []=>.err 10 i
            | w=>roomy toks i (.go ⟨i+w.length,toks++[⟨8,w,i,w.length⟩],bump w st⟩)):=by
  have h1:decide (s.length<=i)=false:=by simp;omega
  unfold stepM;simp only[h0,h1,hc];cases decide ((s.getD i 0).toNat=34)with
  | true=>rfl
  | false=>cases U5 (s.getD i 0)with
    | true=>rfl
    | false=>cases a1b (s.getD i 0)with
      | true=>rfl
      | false=>cases a2w s i 2<;>rfl
theorem a3v (hq:(s.getD i 0).toNat ≠ 34) (hd:U5 (s.getD i 0) = true):stepM s ⟨i0,toks,st⟩ = roomy toks i (match a4y ((s.take (a1c U5 s i)).drop i) (s.getD (a1c U5 s i) 0) with
            | true=>.err 13 i
            | false=>.go ⟨a1c U5 s i,toks++[⟨3,(s.take (a1c U5 s i)).drop i,i,a1c U5 s i-i⟩],st⟩):=by
  rw[a9a h0 hi hc];simp only[decide_eq_false hq,hd]
theorem a2G (hq:(s.getD i 0).toNat ≠ 34) (hd:U5 (s.getD i 0) = false) (hl:a1b (s.getD i 0) = true):stepM s ⟨i0,toks,st⟩ = roomy toks i (match ltB 24 ((s.take (a1c a2J s i)).drop i).length with
              | true=>.err 14 i
              | false=>.go ⟨a1c a2J s i,toks++[⟨a4F ((s.take (a1c a2J s i)).drop i),(s.take (a1c a2J s i)).drop i,i,a1c a2J s i-i⟩],st⟩):=by
  rw[a9a h0 hi hc];simp only[decide_eq_false hq,hd,hl]
theorem a5P (hq:(s.getD i 0).toNat≠34)(hd:U5 (s.getD i 0)=false)(hl:a1b (s.getD i 0)=false)(hs:a2w s i 2=[]):stepM s ⟨i0,toks,st⟩=.err 10 i:=by
 rw[a9a h0 hi hc];simp only[decide_eq_false hq,hd,hl,hs]
theorem a2p (hq:(s.getD i 0).toNat≠34)(hd:U5 (s.getD i 0)=false)(hl:a1b (s.getD i 0)=false){w:List UInt8}(hs:a2w s i 2=w)(hw:w ≠ []):stepM s ⟨i0,toks,st⟩=roomy toks i (.go ⟨i+w.length,toks++[⟨8,w,i,w.length⟩],bump w st⟩):=by
 rw[a9a h0 hi hc];simp only[decide_eq_false hq,hd,hl,hs]
theorem a4s (hq:(s.getD i 0).toNat=34):stepM s ⟨i0,toks,st⟩=roomy toks i (a2k toks st i i 4 5 (part s i st.length (i+1) [])):=by
 rw[a9a h0 hi hc];simp only[decide_eq_true hq]
omit h0 hi hc
theorem a7f (h:leB 3000 (toks.length:Nat)=true):roomy toks i r=.err 2 i:=by
 simp only[leB,decide_eq_true_eq]at h;simp only[roomy,decide_eq_true (show 3000<=toks.length by omega)]
theorem b4R (h:leB 3000 (toks.length:Nat)=false):roomy toks i r=r:=by
 simp only[leB,decide_eq_false_iff_not]at h;simp only[roomy,decide_eq_false (show ¬3000<=toks.length by omega)]
theorem b9H {s:List UInt8}{i:Nat}:∀n,i<=s.length ->(a2w s i n).length+i<=s.length/\(a2w s i n).length<=n:=by
 intro n hi;induction n with
 | zero=>simp only[a2w,List.length_nil];omega
 | succ k ih =>
  simp only[a2w];split
  ·rename_i h;simp only[Bool.and_eq_true,leB,decide_eq_true_eq]at h;simp only[List.length_drop,List.length_take];omega
  ·omega
end
theorem c42T (s:List UInt8)(i:Nat)(toks:List Tok)(c a:Int)(e:Nat)(hi:i<=s.length)(hs:s.length<4611686018427387904)(he:e=0∨e=4)(hn:toks.length<=100000)(r:Nat)(hr:a1c U5 s i=r)(w:List UInt8)(hw:(s.take r).drop i=w)
  (hb:a4y w (s.getD r 0)=false):E env (.call 83 [.ptr 0 0]) (scE s i toks c a e)=some (.ret (.bool true) (scE s r (toks++[⟨3,w,i,r-i⟩]) c a 4)):=by
 have h:=c42 s i toks.length (a2O toks) c a e hi hs he hn (a8H toks) r hr w hw false hb;unfold scE;rw[b31,List.length_append];exact h
theorem c44T (s:List UInt8)(i:Nat)(toks:List Tok)(c a:Int)(e:Nat)(hi:i<=s.length)(hs:s.length<4611686018427387904)(he:e=0∨e=4)(hn:toks.length<=100000)(r:Nat)(hr:a1c a2J s i=r)(w:List UInt8)(hw:(s.take r).drop i=w)(hw0:0<w.length)
  (hb:ltB 24 w.length=false):E env (.call 85 [.ptr 0 0]) (scE s i toks c a e)=some (.ret (.bool true) (scE s r (toks++[⟨a4F w,w,i,r-i⟩]) c a 4)):=by
 have h:=c44 s i toks.length (a2O toks) c a e hi hs he hn (a8H toks) r hr w hw hw0 false hb;unfold scE;rw[b31,List.length_append];exact h
theorem wrapI {x:Int}(h1:-9223372036854775808<=x)(h2:x<9223372036854775808):a3P (some (.i (IntKind.wrap .i64 x)))=some (.i x):=by
 rw[wrap64 h1 h2];rfl
theorem b4V:∀(b:Bool) (l:List UInt8),a7Z b l<=l.length
 | _,[]=>by simp[a7Z]
 | true,b::r=>by simp only[a7Z,List.length_cons];have:=b4V (nlB b) r;omega
 | false,b::r=>by
  have h1:=b4V false r;have h2:=b4V true r;simp only[a7Z,List.length_cons];repeat' split
  all_goals omega
theorem skipE_le {s:List UInt8}{i:Nat}(h:i<=s.length):a0W s i<=s.length:=by
 have:=b4V false (s.drop i);simp only[List.length_drop]at this;unfold a0W;omega
theorem skipE_ge {s:List UInt8}{i:Nat}:i<=a0W s i:=by unfold a0W;omega
def AllP (s:List UInt8)(nest opn:Nat)(base:Int->List (Nat×Int)):Prop:=∀(i:Nat) (toks:List Tok) (c a:Int) (e:Nat),i<=s.length->toks.length<=3000 ->(e=0∨e=4) ->
 ∃v H2,E env (.call 38 [.ptr 0 0,.i nest,.i opn]) (scE s i toks c a e)=some (.ret v H2) /\
  OutP s c a (fun i' toks'=>i<=i'/\((nest=0/\Ends s ⟨i,toks,base 0⟩ (.done toks'))∨(0<nest/\i'<s.length/\(s.getD i' 0).toNat=41 /\ ∃i0,Reach s ⟨i,toks,base 0⟩ ⟨i0,toks',base 0⟩/\a0W s i0=i')))
   (fun c' a'=>Ends s ⟨i,toks,base 0⟩ (.err c' a')) v H2
structure AS where
 j:Nat
 p:Int
 toks:List Tok
 e:Nat
end Go.Proofs.YtjhfloacokgdiaaGreatDoor.Sc
