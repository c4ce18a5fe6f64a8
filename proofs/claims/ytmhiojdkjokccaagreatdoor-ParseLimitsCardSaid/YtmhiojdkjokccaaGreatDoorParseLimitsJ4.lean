/- What the functions under ParseLimits compute, step by step, as functions in Lean: texts that were built one by one, joined. -/
import Derived.Test.YtmhiojdkjokccaaGreatDoorParseLimitsJ3
set_option maxRecDepth 100000
set_option maxHeartbeats 20000000
set_option linter.unusedSimpArgs false
set_option linter.unusedVariables false
set_option linter.unusedSectionVars false
namespace Go.Proofs.YtmhiojdkjokccaaGreatDoor.Sc
open Go Go.Vm
def b3o (nest opn:Nat) (base:Int -> List (Nat × Int)):Prop:=(nest = 0 /\ ∀ p,base p = []) ∨ ∃ st,nest = st.length + 1 /\ ∀ p,base p = (opn,p) :: st
def delta (w:List UInt8):Int:=match decide (w = [40]) with | true=>1 | false=>match decide (w = [41]) with | true=>-1 | false=>0
section
variable {nest opn:Nat} {base:Int -> List (Nat × Int)} (hb:b3o nest opn base)
include hb
theorem b3o.len (p:Int):(base p).length = nest:=by
 rcases hb with ⟨rfl,h⟩ | ⟨st,rfl,h⟩ <;> rw [h] <;> rfl
theorem b3o.closes (p:Int) (b:Nat):closes b (base p) = (decide (0 < nest) && decide (p = 0) && decide (b = 41)):=by
 rcases hb with ⟨rfl,h⟩ | ⟨st,rfl,h⟩
 ·rw [h]; rfl
 ·rw [h]; simp [Sc.closes]
theorem b3o.bump (p:Int) (w:List UInt8):bump w (base p) = base (p + delta w):=by
 rcases hb with ⟨rfl,h⟩ | ⟨st,rfl,h⟩
 ·rw [h,h]; rfl
 ·rw [h,h]
  simp only [Sc.bump,delta]
  cases decide (w = [40]) with
  | true=>rfl
  | false =>
   cases decide (w = [41]) with
   | true=>rfl
   | false=>simp
end
section
variable {s:List UInt8} {i i0:Nat} {toks:List Tok} {st:List (Nat × Int)}
theorem a6M (h0:a1f s i0 = i) (hi:s.length <= i):stepM s ⟨i0,toks,[]⟩ = .done toks:=by
 simp only [stepM,h0,decide_eq_true hi]
theorem a6N {q:Nat} {p:Int} (h0:a1f s i0 = i) (hi:s.length <= i):stepM s ⟨i0,toks,(q,p) :: st⟩ = .err 11 q:=by
 simp only [stepM,h0,decide_eq_true hi]
variable (h0:a1f s i0 = i) (hi:i < s.length) (hc:closes (s.getD i 0).toNat st = false)
include h0 hi hc
theorem a6O:stepM s ⟨i0,toks,st⟩ = (match decide ((s.getD i 0).toNat = 34) with
      | true=>roomy toks i (a2R toks st i i 4 5 (part s i st.length (i + 1) []))
      | false=>match Y4 (s.getD i 0) with
        | true=>roomy toks i (match a1C ((s.take (a1k Y4 s i)).drop i) (s.getD (a1k Y4 s i) 0) with
            | true=>.err 13 i
            | false=>.go ⟨a1k Y4 s i,toks ++ [⟨3,(s.take (a1k Y4 s i)).drop i,i,a1k Y4 s i - i⟩],st⟩)
        | false=>match a3l (s.getD i 0) with
          | true=>roomy toks i (match ltB 24 ((s.take (a1k a3i s i)).drop i).length with
              | true=>.err 14 i
              | false=>.go ⟨a1k a3i s i,toks ++ [⟨a7h ((s.take (a1k a3i s i)).drop i),(s.take (a1k a3i s i)).drop i,i,a1k a3i s i - i⟩],st⟩)
          | false=>match a4P s i 2 with
            | []=>.err 10 i
            | w=>roomy toks i (.go ⟨i + w.length,toks ++ [⟨8,w,i,w.length⟩],bump w st⟩)):=by
  have h1:decide (s.length <= i) = false:=by simp; omega
  unfold stepM
  simp only [h0,h1,hc]
  cases decide ((s.getD i 0).toNat = 34) with
  | true=>rfl
  | false=>cases Y4 (s.getD i 0) with
    | true=>rfl
    | false=>cases a3l (s.getD i 0) with
      | true=>rfl
      | false=>cases a4P s i 2 <;> rfl
theorem a4Q (hq:(s.getD i 0).toNat ≠ 34) (hd:Y4 (s.getD i 0) = true):stepM s ⟨i0,toks,st⟩ = roomy toks i (match a1C ((s.take (a1k Y4 s i)).drop i) (s.getD (a1k Y4 s i) 0) with
            | true=>.err 13 i
            | false=>.go ⟨a1k Y4 s i,toks ++ [⟨3,(s.take (a1k Y4 s i)).drop i,i,a1k Y4 s i - i⟩],st⟩):=by
  rw [a6O h0 hi hc]; simp only [decide_eq_false hq,hd]
theorem a4j (hq:(s.getD i 0).toNat ≠ 34) (hd:Y4 (s.getD i 0) = false) (hl:a3l (s.getD i 0) = true):stepM s ⟨i0,toks,st⟩ = roomy toks i (match ltB 24 ((s.take (a1k a3i s i)).drop i).length with
              | true=>.err 14 i
              | false=>.go ⟨a1k a3i s i,toks ++ [⟨a7h ((s.take (a1k a3i s i)).drop i),(s.take (a1k a3i s i)).drop i,i,a1k a3i s i - i⟩],st⟩):=by
  rw [a6O h0 hi hc]; simp only [decide_eq_false hq,hd,hl]
theorem a6L (hq:(s.getD i 0).toNat ≠ 34) (hd:Y4 (s.getD i 0) = false) (hl:a3l (s.getD i 0) = false) (hs:a4P s i 2 = []):stepM s ⟨i0,toks,st⟩ = .err 10 i:=by
 rw [a6O h0 hi hc]; simp only [decide_eq_false hq,hd,hl,hs]
theorem a4a (hq:(s.getD i 0).toNat ≠ 34) (hd:Y4 (s.getD i 0) = false) (hl:a3l (s.getD i 0) = false) {w:List UInt8} (hs:a4P s i 2 = w) (hw:w ≠ []):stepM s ⟨i0,toks,st⟩ = roomy toks i (.go ⟨i + w.length,toks ++ [⟨8,w,i,w.length⟩],bump w st⟩):=by
 rw [a6O h0 hi hc]; simp only [decide_eq_false hq,hd,hl,hs]
theorem a8u (hq:(s.getD i 0).toNat = 34):stepM s ⟨i0,toks,st⟩ = roomy toks i (a2R toks st i i 4 5 (part s i st.length (i + 1) [])):=by
 rw [a6O h0 hi hc]; simp only [decide_eq_true hq]
omit h0 hi hc
theorem a5v {r:MR} (h:leB 3000 (toks.length:Nat) = true):roomy toks i r = .err 2 i:=by
 simp only [leB,decide_eq_true_eq] at h
 simp only [roomy,decide_eq_true (show 3000 <= toks.length by omega)]
theorem b4s {r:MR} (h:leB 3000 (toks.length:Nat) = false):roomy toks i r = r:=by
 simp only [leB,decide_eq_false_iff_not] at h
 simp only [roomy,decide_eq_false (show ¬ 3000 <= toks.length by omega)]
theorem b5E {s:List UInt8} {i:Nat}:∀ n,i <= s.length -> (a4P s i n).length + i <= s.length /\ (a4P s i n).length <= n:=by
 intro n hi
 induction n with
 | zero=>simp only [a4P,List.length_nil]; omega
 | succ k ih =>
  simp only [a4P]
  split
  ·rename_i h
   simp only [Bool.and_eq_true,leB,decide_eq_true_eq] at h
   simp only [List.length_drop,List.length_take]
   omega
  ·omega
end
theorem c42T (s:List UInt8) (i:Nat) (toks:List Tok) (c a:Int) (e:Nat) (hi:i <= s.length) (hs:s.length < 4611686018427387904) (he:e = 0 ∨ e = 4) (hn:toks.length <= 100000) (r:Nat) (hr:a1k Y4 s i = r) (w:List UInt8) (hw:(s.take r).drop i = w)
  (hb:a1C w (s.getD r 0) = false):E env (.call 29 [.ptr 0 0]) (scE s i toks c a e) = some (.ret (.bool true) (scE s r (toks ++ [⟨3,w,i,r - i⟩]) c a 4)):=by
 have h:=c42 s i toks.length (a2i toks) c a e hi hs he hn (a6u toks) r hr w hw false hb
 unfold scE
 rw [b0E,List.length_append]
 exact h
theorem c44T (s:List UInt8) (i:Nat) (toks:List Tok) (c a:Int) (e:Nat) (hi:i <= s.length) (hs:s.length < 4611686018427387904) (he:e = 0 ∨ e = 4) (hn:toks.length <= 100000) (r:Nat) (hr:a1k a3i s i = r) (w:List UInt8) (hw:(s.take r).drop i = w) (hw0:0 < w.length)
  (hb:ltB 24 w.length = false):E env (.call 31 [.ptr 0 0]) (scE s i toks c a e) = some (.ret (.bool true) (scE s r (toks ++ [⟨a7h w,w,i,r - i⟩]) c a 4)):=by
 have h:=c44 s i toks.length (a2i toks) c a e hi hs he hn (a6u toks) r hr w hw hw0 false hb
 unfold scE
 rw [b0E,List.length_append]
 exact h
theorem wrapI {x:Int} (h1:-9223372036854775808 <= x) (h2:x < 9223372036854775808):a4C (some (.i (IntKind.wrap .i64 x))) = some (.i x):=by
 rw [wrap64 h1 h2]; rfl
theorem b1y:∀ (b:Bool) (l:List UInt8),a5Y b l <= l.length
 | _,[]=>by simp [a5Y]
 | true,b :: r=>by simp only [a5Y,List.length_cons]; have:=b1y (nlB b) r; omega
 | false,b :: r=>by
  have h1:=b1y false r
  have h2:=b1y true r
  simp only [a5Y,List.length_cons]
  repeat' split
  all_goals omega
theorem skipE_le {s:List UInt8} {i:Nat} (h:i <= s.length):a1f s i <= s.length:=by
 have:=b1y false (s.drop i)
 simp only [List.length_drop] at this
 unfold a1f; omega
theorem skipE_ge {s:List UInt8} {i:Nat}:i <= a1f s i:=by unfold a1f; omega
def AllP (s:List UInt8) (nest opn:Nat) (base:Int -> List (Nat × Int)):Prop:=∀ (i:Nat) (toks:List Tok) (c a:Int) (e:Nat),i <= s.length -> toks.length <= 3000 -> (e = 0 ∨ e = 4) ->
 ∃ v H2,E env (.call 11 [.ptr 0 0,.i nest,.i opn]) (scE s i toks c a e) = some (.ret v H2) /\
  OutP s c a (fun i' toks'=>i <= i' /\ ((nest = 0 /\ Ends s ⟨i,toks,base 0⟩ (.done toks')) ∨ (0 < nest /\ i' < s.length /\ (s.getD i' 0).toNat = 41 /\ ∃ i0,Reach s ⟨i,toks,base 0⟩ ⟨i0,toks',base 0⟩ /\ a1f s i0 = i')))
   (fun c' a'=>Ends s ⟨i,toks,base 0⟩ (.err c' a')) v H2
structure AS where
 j:Nat
 p:Int
 toks:List Tok
 e:Nat
end Go.Proofs.YtmhiojdkjokccaaGreatDoor.Sc
