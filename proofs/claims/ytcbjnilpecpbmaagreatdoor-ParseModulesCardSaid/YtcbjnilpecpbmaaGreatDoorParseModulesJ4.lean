/- What the functions under ParseModules compute, step by step, as functions in Lean: texts that were built one by one, joined. -/
import Derived.Test.YtcbjnilpecpbmaaGreatDoorParseModulesJ3
set_option maxRecDepth 100000
set_option maxHeartbeats 20000000
set_option linter.unusedSimpArgs false
set_option linter.unusedVariables false
set_option linter.unusedSectionVars false
namespace Go.Proofs.YtcbjnilpecpbmaaGreatDoor.Sc
open Go Go.Vm
def b7v (nest opn:Nat)(base:Int->List (Nat×Int)):Prop:=(nest=0 /\ ∀p,base p=[]) ∨ ∃st,nest=st.length+1 /\ ∀p,base p =(opn,p)::st
def delta (w:List UInt8):Int:=match decide (w=[40])with|true=>1|false=>match decide (w=[41])with|true=>-1|false=>0
section
variable {nest opn:Nat} {base:Int->List (Nat×Int)} (hb:b7v nest opn base)
include hb
theorem b7v.len (p:Int):(base p).length=nest:=by
 rcases hb with⟨rfl,h⟩ |⟨st,rfl,h⟩<;>rw[h]<;>rfl
theorem b7v.closes (p:Int)(b:Nat):closes b (base p) =(decide (0<nest)&&decide (p=0)&&decide (b=41)):=by
 rcases hb with⟨rfl,h⟩ |⟨st,rfl,h⟩
 ·rw[h];rfl
 ·rw[h];simp[Sc.closes]
theorem b7v.bump (p:Int)(w:List UInt8):bump w (base p)=base (p+delta w):=by
 rcases hb with⟨rfl,h⟩ |⟨st,rfl,h⟩
 ·rw[h,h];rfl
 ·rw[h,h]
  simp only[Sc.bump,delta]
  cases decide (w=[40])with
  | true=>rfl
  | false =>
   cases decide (w=[41])with
   | true=>rfl
   | false=>simp
end
section
variable {s:List UInt8} {i i0:Nat} {toks:List Tok} {st:List (Nat×Int)}
theorem a7G (h0:Y8 s i0=i)(hi:s.length<=i):stepM s ⟨i0,toks,[]⟩=.done toks:=by
 simp only[stepM,h0,decide_eq_true hi]
theorem a7H {q:Nat}{p:Int}(h0:Y8 s i0=i)(hi:s.length<=i):stepM s ⟨i0,toks,(q,p)::st⟩=.err 11 q:=by
 simp only[stepM,h0,decide_eq_true hi]
variable (h0:Y8 s i0=i) (hi:i<s.length) (hc:closes (s.getD i 0).toNat st=false)
include h0 hi hc
theorem a9r:stepM s ⟨i0,toks,st⟩ = (match decide ((s.getD i 0).toNat = 34) with
      | true=>roomy toks i (a3x toks st i i 4 5 (part s i st.length (i+1) []))
      | false=>match M7 (s.getD i 0)with
        | true=>roomy toks i (match X9 ((s.take (U9 M7 s i)).drop i) (s.getD (U9 M7 s i) 0) with
            | true=>.err 13 i
            | false=>.go ⟨U9 M7 s i,toks++[⟨3,(s.take (U9 M7 s i)).drop i,i,U9 M7 s i-i⟩],st⟩)
        | false=>match a0u (s.getD i 0)with
          | true=>roomy toks i (match ltB 24 ((s.take (U9 a0e s i)).drop i).length with
              | true=>.err 14 i
              | false=>.go ⟨U9 a0e s i,toks++[⟨a4T ((s.take (U9 a0e s i)).drop i),(s.take (U9 a0e s i)).drop i,i,U9 a0e s i-i⟩],st⟩)
          | false=>match a1a s i 2 with
            | []=>.err 10 i
            | w=>roomy toks i (.go ⟨i+w.length,toks++[⟨8,w,i,w.length⟩],bump w st⟩)):=by
  have h1:decide (s.length<=i)=false:=by simp;omega
  unfold stepM
  simp only[h0,h1,hc]
  cases decide ((s.getD i 0).toNat=34)with
  | true=>rfl
  | false=>cases M7 (s.getD i 0)with
    | true=>rfl
    | false=>cases a0u (s.getD i 0)with
      | true=>rfl
      | false=>cases a1a s i 2<;>rfl
theorem a4w (hq:(s.getD i 0).toNat ≠ 34) (hd:M7 (s.getD i 0) = true):stepM s ⟨i0,toks,st⟩ = roomy toks i (match X9 ((s.take (U9 M7 s i)).drop i) (s.getD (U9 M7 s i) 0) with
            | true=>.err 13 i
            | false=>.go ⟨U9 M7 s i,toks++[⟨3,(s.take (U9 M7 s i)).drop i,i,U9 M7 s i-i⟩],st⟩):=by
  rw[a9r h0 hi hc];simp only[decide_eq_false hq,hd]
theorem a3P (hq:(s.getD i 0).toNat ≠ 34) (hd:M7 (s.getD i 0) = false) (hl:a0u (s.getD i 0) = true):stepM s ⟨i0,toks,st⟩ = roomy toks i (match ltB 24 ((s.take (U9 a0e s i)).drop i).length with
              | true=>.err 14 i
              | false=>.go ⟨U9 a0e s i,toks++[⟨a4T ((s.take (U9 a0e s i)).drop i),(s.take (U9 a0e s i)).drop i,i,U9 a0e s i-i⟩],st⟩):=by
  rw[a9r h0 hi hc];simp only[decide_eq_false hq,hd,hl]
theorem a7F (hq:(s.getD i 0).toNat≠34)(hd:M7 (s.getD i 0)=false)(hl:a0u (s.getD i 0)=false)(hs:a1a s i 2=[]):stepM s ⟨i0,toks,st⟩=.err 10 i:=by
 rw[a9r h0 hi hc];simp only[decide_eq_false hq,hd,hl,hs]
theorem a3S (hq:(s.getD i 0).toNat≠34)(hd:M7 (s.getD i 0)=false)(hl:a0u (s.getD i 0)=false){w:List UInt8}(hs:a1a s i 2=w)(hw:w ≠ []):stepM s ⟨i0,toks,st⟩=roomy toks i (.go ⟨i+w.length,toks++[⟨8,w,i,w.length⟩],bump w st⟩):=by
 rw[a9r h0 hi hc];simp only[decide_eq_false hq,hd,hl,hs]
theorem a7I (hq:(s.getD i 0).toNat=34):stepM s ⟨i0,toks,st⟩=roomy toks i (a3x toks st i i 4 5 (part s i st.length (i+1) [])):=by
 rw[a9r h0 hi hc];simp only[decide_eq_true hq]
omit h0 hi hc
theorem a6c {r:MR}(h:leB 3000 (toks.length:Nat)=true):roomy toks i r=.err 2 i:=by
 simp only[leB,decide_eq_true_eq]at h
 simp only[roomy,decide_eq_true (show 3000<=toks.length by omega)]
theorem b1a {r:MR}(h:leB 3000 (toks.length:Nat)=false):roomy toks i r=r:=by
 simp only[leB,decide_eq_false_iff_not]at h
 simp only[roomy,decide_eq_false (show ¬3000<=toks.length by omega)]
theorem b3V {s:List UInt8}{i:Nat}:∀n,i<=s.length ->(a1a s i n).length+i<=s.length/\(a1a s i n).length<=n:=by
 intro n hi
 induction n with
 | zero=>simp only[a1a,List.length_nil];omega
 | succ k ih =>
  simp only[a1a]
  split
  ·rename_i h
   simp only[Bool.and_eq_true,leB,decide_eq_true_eq]at h
   simp only[List.length_drop,List.length_take]
   omega
  ·omega
end
theorem c42T (s:List UInt8)(i:Nat)(toks:List Tok)(c a:Int)(e:Nat)(hi:i<=s.length)(hs:s.length<4611686018427387904)(he:e=0∨e=4)(hn:toks.length<=100000)(r:Nat)(hr:U9 M7 s i=r)(w:List UInt8)(hw:(s.take r).drop i=w)
  (hb:X9 w (s.getD r 0)=false):E env (.call 117 [.ptr 0 0]) (scE s i toks c a e)=some (.ret (.bool true) (scE s r (toks++[⟨3,w,i,r-i⟩]) c a 4)):=by
 have h:=c42 s i toks.length (a2v toks) c a e hi hs he hn (a3Q toks) r hr w hw false hb
 unfold scE
 rw[a4Z,List.length_append]
 exact h
theorem c44T (s:List UInt8)(i:Nat)(toks:List Tok)(c a:Int)(e:Nat)(hi:i<=s.length)(hs:s.length<4611686018427387904)(he:e=0∨e=4)(hn:toks.length<=100000)(r:Nat)(hr:U9 a0e s i=r)(w:List UInt8)(hw:(s.take r).drop i=w)(hw0:0<w.length)
  (hb:ltB 24 w.length=false):E env (.call 119 [.ptr 0 0]) (scE s i toks c a e)=some (.ret (.bool true) (scE s r (toks++[⟨a4T w,w,i,r-i⟩]) c a 4)):=by
 have h:=c44 s i toks.length (a2v toks) c a e hi hs he hn (a3Q toks) r hr w hw hw0 false hb
 unfold scE
 rw[a4Z,List.length_append]
 exact h
theorem c0y {x:Int}(h1:-9223372036854775808<=x)(h2:x<9223372036854775808):a4A (some (.i (IntKind.wrap .i64 x)))=some (.i x):=by
 rw[wrap64 h1 h2];rfl
theorem b5F:∀(b:Bool) (l:List UInt8),a8t b l<=l.length
 | _,[]=>by simp[a8t]
 | true,b::r=>by simp only[a8t,List.length_cons];have:=b5F (nlB b) r;omega
 | false,b::r=>by
  have h1:=b5F false r
  have h2:=b5F true r
  simp only[a8t,List.length_cons]
  repeat' split
  all_goals omega
theorem a9o {s:List UInt8}{i:Nat}(h:i<=s.length):Y8 s i<=s.length:=by
 have:=b5F false (s.drop i)
 simp only[List.length_drop]at this
 unfold Y8;omega
theorem a9n {s:List UInt8}{i:Nat}:i<=Y8 s i:=by unfold Y8;omega
def AllP (s:List UInt8)(nest opn:Nat)(base:Int->List (Nat×Int)):Prop:=∀(i:Nat) (toks:List Tok) (c a:Int) (e:Nat),i<=s.length->toks.length<=3000 ->(e=0∨e=4) ->
 ∃v H2,E env (.call 67 [.ptr 0 0,.i nest,.i opn]) (scE s i toks c a e)=some (.ret v H2) /\
  OutP s c a (fun i' toks'=>i<=i'/\((nest=0/\Ends s ⟨i,toks,base 0⟩ (.done toks'))∨(0<nest/\i'<s.length/\(s.getD i' 0).toNat=41 /\ ∃i0,Reach s ⟨i,toks,base 0⟩ ⟨i0,toks',base 0⟩/\Y8 s i0=i')))
   (fun c' a'=>Ends s ⟨i,toks,base 0⟩ (.err c' a')) v H2
structure AS where
 j:Nat
 p:Int
 toks:List Tok
 e:Nat
end Go.Proofs.YtcbjnilpecpbmaaGreatDoor.Sc
