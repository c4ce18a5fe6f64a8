/- What the functions under ParseSpeaks compute, step by step, as functions in Lean: texts that were built one by one, joined. -/
import Derived.Test.YtmippldlhnajkaaGreatDoorParseSpeaksJ3
set_option maxRecDepth 100000
set_option maxHeartbeats 20000000
set_option linter.unusedSimpArgs false
set_option linter.unusedVariables false
set_option linter.unusedSectionVars false
namespace Go.Proofs.YtmippldlhnajkaaGreatDoor.Sc
open Go Go.Vm
def b4G (nest opn:Nat)(base:Int->List (Nat×Int)):Prop:=(nest=0 /\ ∀p,base p=[]) ∨ ∃st,nest=st.length+1 /\ ∀p,base p =(opn,p)::st
def delta (w:List UInt8):Int:=match decide (w=[40])with|true=>1|false=>match decide (w=[41])with|true=>-1|false=>0
section
variable {nest opn:Nat} {base:Int->List (Nat×Int)} (hb:b4G nest opn base)
include hb
theorem b4G.len (p:Int):(base p).length=nest:=by
 rcases hb with⟨rfl,h⟩ |⟨st,rfl,h⟩<;>rw[h]<;>rfl
theorem b4G.closes (p:Int)(b:Nat):closes b (base p) =(decide (0<nest)&&decide (p=0)&&decide (b=41)):=by
 rcases hb with⟨rfl,h⟩ |⟨st,rfl,h⟩
 ·rw[h];rfl
 ·rw[h];simp[Sc.closes]
theorem b4G.bump (p:Int)(w:List UInt8):bump w (base p)=base (p+delta w):=by
 rcases hb with⟨rfl,h⟩ |⟨st,rfl,h⟩
 ·rw[h,h];rfl
 ·rw[h,h]
  simp only[Sc.bump,delta]
  cases decide (w=[40])with
  | true=>rfl
  | false =>
   cases decide (w=[41])with
   | true=>rfl
   | false=>simp
end
section
variable {s:List UInt8} {i i0:Nat} {toks:List Tok} {st:List (Nat×Int)}
theorem a4x (h0:U5 s i0=i)(hi:s.length<=i):stepM s ⟨i0,toks,[]⟩=.done toks:=by
 simp only[stepM,h0,decide_eq_true hi]
theorem a4y {q:Nat}{p:Int}(h0:U5 s i0=i)(hi:s.length<=i):stepM s ⟨i0,toks,(q,p)::st⟩=.err 11 q:=by
 simp only[stepM,h0,decide_eq_true hi]
variable (h0:U5 s i0=i) (hi:i<s.length) (hc:closes (s.getD i 0).toNat st=false)
include h0 hi hc
theorem a7a:stepM s ⟨i0,toks,st⟩ = (match decide ((s.getD i 0).toNat = 34) with
      | true=>roomy toks i (a1g toks st i i 4 5 (part s i st.length (i+1) []))
      | false=>match J2 (s.getD i 0)with
        | true=>roomy toks i (match U0 ((s.take (Q5 J2 s i)).drop i) (s.getD (Q5 J2 s i) 0) with
            | true=>.err 13 i
            | false=>.go ⟨Q5 J2 s i,toks++[⟨3,(s.take (Q5 J2 s i)).drop i,i,Q5 J2 s i-i⟩],st⟩)
        | false=>match X5 (s.getD i 0)with
          | true=>roomy toks i (match ltB 24 ((s.take (Q5 V8 s i)).drop i).length with
              | true=>.err 14 i
              | false=>.go ⟨Q5 V8 s i,toks++[⟨a3n ((s.take (Q5 V8 s i)).drop i),(s.take (Q5 V8 s i)).drop i,i,Q5 V8 s i-i⟩],st⟩)
          | false=>match a0f s i 2 with
            | []=>.err 10 i
            | w=>roomy toks i (.go ⟨i+w.length,toks++[⟨8,w,i,w.length⟩],bump w st⟩)):=by
  have h1:decide (s.length<=i)=false:=by simp;omega
  unfold stepM
  simp only[h0,h1,hc]
  cases decide ((s.getD i 0).toNat=34)with
  | true=>rfl
  | false=>cases J2 (s.getD i 0)with
    | true=>rfl
    | false=>cases X5 (s.getD i 0)with
      | true=>rfl
      | false=>cases a0f s i 2<;>rfl
theorem a2y (hq:(s.getD i 0).toNat ≠ 34) (hd:J2 (s.getD i 0) = true):stepM s ⟨i0,toks,st⟩ = roomy toks i (match U0 ((s.take (Q5 J2 s i)).drop i) (s.getD (Q5 J2 s i) 0) with
            | true=>.err 13 i
            | false=>.go ⟨Q5 J2 s i,toks++[⟨3,(s.take (Q5 J2 s i)).drop i,i,Q5 J2 s i-i⟩],st⟩):=by
  rw[a7a h0 hi hc];simp only[decide_eq_false hq,hd]
theorem a1O (hq:(s.getD i 0).toNat ≠ 34) (hd:J2 (s.getD i 0) = false) (hl:X5 (s.getD i 0) = true):stepM s ⟨i0,toks,st⟩ = roomy toks i (match ltB 24 ((s.take (Q5 V8 s i)).drop i).length with
              | true=>.err 14 i
              | false=>.go ⟨Q5 V8 s i,toks++[⟨a3n ((s.take (Q5 V8 s i)).drop i),(s.take (Q5 V8 s i)).drop i,i,Q5 V8 s i-i⟩],st⟩):=by
  rw[a7a h0 hi hc];simp only[decide_eq_false hq,hd,hl]
theorem a4w (hq:(s.getD i 0).toNat≠34)(hd:J2 (s.getD i 0)=false)(hl:X5 (s.getD i 0)=false)(hs:a0f s i 2=[]):stepM s ⟨i0,toks,st⟩=.err 10 i:=by
 rw[a7a h0 hi hc];simp only[decide_eq_false hq,hd,hl,hs]
theorem a1Z (hq:(s.getD i 0).toNat≠34)(hd:J2 (s.getD i 0)=false)(hl:X5 (s.getD i 0)=false){w:List UInt8}(hs:a0f s i 2=w)(hw:w ≠ []):stepM s ⟨i0,toks,st⟩=roomy toks i (.go ⟨i+w.length,toks++[⟨8,w,i,w.length⟩],bump w st⟩):=by
 rw[a7a h0 hi hc];simp only[decide_eq_false hq,hd,hl,hs]
theorem a4G (hq:(s.getD i 0).toNat=34):stepM s ⟨i0,toks,st⟩=roomy toks i (a1g toks st i i 4 5 (part s i st.length (i+1) [])):=by
 rw[a7a h0 hi hc];simp only[decide_eq_true hq]
omit h0 hi hc
theorem a4v {r:MR}(h:leB 3000 (toks.length:Nat)=true):roomy toks i r=.err 2 i:=by
 simp only[leB,decide_eq_true_eq]at h
 simp only[roomy,decide_eq_true (show 3000<=toks.length by omega)]
theorem a8w {r:MR}(h:leB 3000 (toks.length:Nat)=false):roomy toks i r=r:=by
 simp only[leB,decide_eq_false_iff_not]at h
 simp only[roomy,decide_eq_false (show ¬3000<=toks.length by omega)]
theorem b0Z {s:List UInt8}{i:Nat}:∀n,i<=s.length ->(a0f s i n).length+i<=s.length/\(a0f s i n).length<=n:=by
 intro n hi
 induction n with
 | zero=>simp only[a0f,List.length_nil];omega
 | succ k ih =>
  simp only[a0f]
  split
  ·rename_i h
   simp only[Bool.and_eq_true,leB,decide_eq_true_eq]at h
   simp only[List.length_drop,List.length_take]
   omega
  ·omega
end
theorem c42T (s:List UInt8)(i:Nat)(toks:List Tok)(c a:Int)(e:Nat)(hi:i<=s.length)(hs:s.length<4611686018427387904)(he:e=0∨e=4)(hn:toks.length<=100000)(r:Nat)(hr:Q5 J2 s i=r)(w:List UInt8)(hw:(s.take r).drop i=w)
  (hb:U0 w (s.getD r 0)=false):E env (.call 186 [.ptr 0 0]) (scE s i toks c a e)=some (.ret (.bool true) (scE s r (toks++[⟨3,w,i,r-i⟩]) c a 4)):=by
 have h:=c42 s i toks.length (a1m toks) c a e hi hs he hn (a2z toks) r hr w hw false hb
 unfold scE
 rw[a3v,List.length_append]
 exact h
theorem c44T (s:List UInt8)(i:Nat)(toks:List Tok)(c a:Int)(e:Nat)(hi:i<=s.length)(hs:s.length<4611686018427387904)(he:e=0∨e=4)(hn:toks.length<=100000)(r:Nat)(hr:Q5 V8 s i=r)(w:List UInt8)(hw:(s.take r).drop i=w)(hw0:0<w.length)
  (hb:ltB 24 w.length=false):E env (.call 188 [.ptr 0 0]) (scE s i toks c a e)=some (.ret (.bool true) (scE s r (toks++[⟨a3n w,w,i,r-i⟩]) c a 4)):=by
 have h:=c44 s i toks.length (a1m toks) c a e hi hs he hn (a2z toks) r hr w hw hw0 false hb
 unfold scE
 rw[a3v,List.length_append]
 exact h
theorem b7l {x:Int}(h1:-9223372036854775808<=x)(h2:x<9223372036854775808):a2a (some (.i (IntKind.wrap .i64 x)))=some (.i x):=by
 rw[wrap64 h1 h2];rfl
theorem b2Q:∀(b:Bool) (l:List UInt8),a6b b l<=l.length
 | _,[]=>by simp[a6b]
 | true,b::r=>by simp only[a6b,List.length_cons];have:=b2Q (nlB b) r;omega
 | false,b::r=>by
  have h1:=b2Q false r
  have h2:=b2Q true r
  simp only[a6b,List.length_cons]
  repeat' split
  all_goals omega
theorem a6Y {s:List UInt8}{i:Nat}(h:i<=s.length):U5 s i<=s.length:=by
 have:=b2Q false (s.drop i)
 simp only[List.length_drop]at this
 unfold U5;omega
theorem a6X {s:List UInt8}{i:Nat}:i<=U5 s i:=by unfold U5;omega
def AllP (s:List UInt8)(nest opn:Nat)(base:Int->List (Nat×Int)):Prop:=∀(i:Nat) (toks:List Tok) (c a:Int) (e:Nat),i<=s.length->toks.length<=3000 ->(e=0∨e=4) ->
 ∃v H2,E env (.call 158 [.ptr 0 0,.i nest,.i opn]) (scE s i toks c a e)=some (.ret v H2) /\
  OutP s c a (fun i' toks'=>i<=i'/\((nest=0/\Ends s ⟨i,toks,base 0⟩ (.done toks'))∨(0<nest/\i'<s.length/\(s.getD i' 0).toNat=41 /\ ∃i0,Reach s ⟨i,toks,base 0⟩ ⟨i0,toks',base 0⟩/\U5 s i0=i')))
   (fun c' a'=>Ends s ⟨i,toks,base 0⟩ (.err c' a')) v H2
structure AS where
 j:Nat
 p:Int
 toks:List Tok
 e:Nat
end Go.Proofs.YtmippldlhnajkaaGreatDoor.Sc
