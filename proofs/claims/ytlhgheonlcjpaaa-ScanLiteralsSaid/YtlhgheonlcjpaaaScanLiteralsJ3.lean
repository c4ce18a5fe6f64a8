/- What the functions under ScanLiterals compute, step by step, as functions in Lean: texts that were built one by one, joined. -/
import Derived.Test.YtlhgheonlcjpaaaScanLiteralsJ2
set_option maxRecDepth 100000
set_option maxHeartbeats 20000000
set_option linter.unusedSimpArgs false
set_option linter.unusedVariables false
set_option linter.unusedSectionVars false
namespace Go.Proofs.Ytlhgheonlcjpaaa.Sc
open Go Go.Vm
theorem c31:E env (.call 29 []) [] = some (.ret (.agg (O3.map V.str)) []):=(Q9 env).le 5 _ _ _ (by kernel_rfl)
theorem c32:E env (.call 31 []) [] = some (.ret (.agg (O0.map V.str)) []):=(Q9 env).le 5 _ _ _ (by kernel_rfl)
def V8 (s:List UInt8) (i:Nat):Nat -> List UInt8
 | 0=>[]
 | k + 1=>match leB ((i + (k + 1):Nat):Int) s.length && hasL O0 ((s.take (i + (k + 1))).drop i) with
  | true=>(s.take (i + (k + 1))).drop i
  | false=>V8 s i k
section
variable (s:List UInt8) (i n:Nat) (tc:List V) (c a:Int) (e:Nat)
theorem c45 (hi:i <= s.length) (hs:s.length < 4611686018427387904) (r:List UInt8) (hr:V8 s i 2 = r):E env (.call 20 [.ptr 0 0]) (scH s i n tc c a e) = some (.ret (.str r) (scH s i n tc c a e)):=by
 refine D8 rfl Try.func20 rfl rfl ?_
 refine eSG (oB 1 rfl (eSG ?_))
 refine D7 rfl rfl rfl rfl rfl (c32 ..) rfl ?_
 refine oB 2 rfl (j5 (eSG (oB 1 rfl ?_)))
 refine q8 ?_
 refine O7 rfl ?_
 refine a0z (fun k:Nat=>[(0,.ptr 0 0),(3,.ptr 2 0),(4,.i k)]) (fun _=>[(0,.row [.str s,.i i,.slice (.tag 1) n tc,.i c,.i a]),(1,.tip e n),(2,.row (O0.map V.str))]) (fun k=>k <= 2 /\ V8 s i k = r) (fun k=>k) 2 ⟨Nat.le_refl _,hr⟩ ?_
 intro k ⟨hk,hr⟩ ih
 refine j5 (eSG (oB 2 rfl ?_))
 refine A9 rfl (fun h1=>?_) (fun h1=>?_)
 ·replace h1:0 < k:=by simpa [ltB] using h1
  obtain ⟨k,rfl⟩:∃ k0,k = k0 + 1:=⟨k - 1,by omega⟩
  refine l7 (j5 ?_)
  refine q8 ?_
  refine eSG (oA 6 rfl ?_)
  refine d9 rfl rfl (addN (by omega)) ?_
  refine oA 8 rfl ?_
  refine p8 rfl rfl rfl (fun h2=>?_) (fun h2=>?_)
  ·have h2':i + (k + 1) <= s.length:=by have h:=h2; rw [leN_,decide_eq_true_eq] at h; exact h
   refine d9 rfl rfl (J5 (a1T (a:=0) (b:=27) (by omega) (by omega)) rfl) ?_
   refine oA 16 rfl ?_
   refine d9 rfl rfl (addN (by omega)) ?_
   refine d9 rfl rfl (J5 (a1T (by omega) (by omega)) rfl) ?_
   refine oV (c66s _ _ rfl) ?_
   refine oB 1 rfl ?_
   refine A9 rfl (fun h3=>?_) (fun h3=>?_)
   ·simp only [Int.toNat_natCast] at h3
    obtain rfl:(s.take (i + (k + 1))).drop i = r:=by rw [<- hr]; simp only [V8,h2,h3,Bool.true_and]
    refine eSG (oA 16 rfl ?_)
    refine d9 rfl rfl (addN (by omega)) ?_
    refine d9 rfl rfl (J5 (a1T (by omega) (by omega)) rfl) ?_
    refine oB 1 rfl ?_
    exact l6 ⟨_,rfl,rfl⟩
   ·simp only [Int.toNat_natCast] at h3
    refine l7 (j3 (oA 1 rfl ?_))
    refine d9 rfl rfl (sub1 (by omega) (by omega)) ?_
    refine oB 1 rfl ?_
    exact ⟨_,_,rfl,ih k (by omega) ⟨by omega,by rw [<- hr]; simp only [V8,h2,h3,Bool.true_and]⟩⟩
  ·refine oB 21 rfl ?_
   refine F9 rfl rfl ?_
   refine l7 (j3 (oA 1 rfl ?_))
   refine d9 rfl rfl (sub1 (by omega) (by omega)) ?_
   refine oB 1 rfl ?_
   exact ⟨_,_,rfl,ih k (by omega) ⟨by omega,by rw [<- hr]; simp only [V8,h2,Bool.false_and]⟩⟩
 ·obtain rfl:k = 0:=by simpa [ltB] using h1
  obtain rfl:[] = r:=hr
  refine L9 ?_
  refine eSG (oB 1 rfl ?_)
  exact l6 ⟨_,rfl,rfl⟩
end
end Go.Proofs.Ytlhgheonlcjpaaa.Sc
namespace Go.Proofs.Ytlhgheonlcjpaaa.Sc
open Go Go.Vm
def a0P (w:List UInt8):Int:=match hasL O3 w with
 | true=>9
 | false=>match leB 65 (w.getD 0 0).toNat && leB (w.getD 0 0).toNat 90 with | true=>2 | false=>1
section
variable (s:List UInt8) (i n:Nat) (tc:List V) (c a:Int) (e:Nat)
theorem c44 (hi:i <= s.length) (hs:s.length < 4611686018427387904) (he:e = 0 ∨ e = 4) (hn:n <= 100000) (htc:tc.length = n * 4) (r:Nat) (hr:F8 L6 s i = r) (w:List UInt8) (hw:(s.take r).drop i = w) (hw0:0 < w.length) (b:Bool) (hb:ltB 24 w.length = b) :
  E env (.call 19 [.ptr 0 0]) (scH s i n tc c a e) = some (.ret (.bool (!b)) (match b with | true=>scH s r n tc 14 i e | false=>scH s r (n + 1) (tc ++ a4z (a0P w) w i (r - i)) c a 4)):=by
 have h63:=c63 s i n tc c a e 28 L6 rfl c65 hi hs
 rw [hr,hw] at h63
 have hri:i <= r:=by rw [<- hr]; exact a7u
 have hrl:r <= s.length:=by rw [<- hr]; exact a1y hi
 obtain ⟨k,hk⟩:∃ k,a0P w = k:=⟨_,rfl⟩
 rw [hk]
 refine D8 rfl Try.func19 rfl rfl ?_
 refine eSG (oB 1 rfl (eSG (oB 6 rfl (eSG (oA 3 rfl ?_)))))
 refine a2g rfl rfl rfl (X8 rfl rfl h63 rfl rfl rfl) ?_
 refine oB 1 rfl (j5 (eSG (oB 3 rfl ?_)))
 refine A9 rfl (fun h1=>?_) (fun h1=>?_)
 ·obtain rfl:b = true:=by rw [<- hb]; exact h1
  refine eSG (oA 2 rfl ?_)
  refine oV (c38 ..) ?_
  refine oB 1 rfl ?_
  exact l6 ⟨_,rfl,rfl⟩
 ·obtain rfl:b = false:=by rw [<- hb]; exact h1
  refine l7 (eSG ?_)
  refine D7 rfl rfl rfl rfl rfl (c31 ..) rfl ?_
  refine oB 2 rfl (eSG (oB 1 rfl (j5 (eSG ?_))))
  refine d9 rfl rfl (J5 (a1T (a:=0) (b:=32) (by omega) (by omega)) rfl) ?_
  refine oA 1 rfl ?_
  refine oV (c66w _ _ rfl) ?_
  refine l5 ?_
  refine A9 rfl (fun h2=>?_) (fun h2=>?_)
  ·obtain rfl:9 = k:=by rw [<- hk]; simp only [a0P,h2]
   refine j3 (oB 1 rfl (eSG (oA 4 rfl ?_)))
   refine oV (c46 s r n tc c a e _ w i hri (by omega) he hn htc) ?_
   refine l5 (eSG (oB 1 rfl ?_))
   exact l6 ⟨_,rfl,rfl⟩
  ·refine eSG (oA 1 rfl ?_)
   refine d9 rfl rfl (J5 (I6 (i:=0) hw0) rfl) ?_
   refine oA 2 rfl ?_
   refine p8 rfl rfl rfl (fun h3=>?_) (fun h3=>?_)
   ·refine oA 1 rfl ?_
    refine d9 rfl rfl (J5 (I6 (i:=0) hw0) rfl) ?_
    refine oB 2 rfl ?_
    refine A9 rfl (fun h4=>?_) (fun h4=>?_)
    ·simp only [Int.toNat_zero] at h3 h4
     obtain rfl:2 = k:=by rw [<- hk]; simp only [a0P,h2,h3,h4,Bool.and_self]
     refine j3 (oB 1 rfl (eSG (oA 4 rfl ?_)))
     refine oV (c46 s r n tc c a e _ w i hri (by omega) he hn htc) ?_
     refine l5 (eSG (oB 1 rfl ?_))
     exact l6 ⟨_,rfl,rfl⟩
    ·simp only [Int.toNat_zero] at h3 h4
     obtain rfl:1 = k:=by rw [<- hk]; simp only [a0P,h2,h3,h4,Bool.and_false]
     refine l7 (eSG (oA 4 rfl ?_))
     refine oV (c46 s r n tc c a e _ w i hri (by omega) he hn htc) ?_
     refine l5 (eSG (oB 1 rfl ?_))
     exact l6 ⟨_,rfl,rfl⟩
   ·simp only [Int.toNat_zero] at h3
    obtain rfl:1 = k:=by rw [<- hk]; simp only [a0P,h2,h3,Bool.false_and]
    refine oB 4 rfl ?_
    refine F9 rfl rfl ?_
    refine l7 (eSG (oA 4 rfl ?_))
    refine oV (c46 s r n tc c a e _ w i hri (by omega) he hn htc) ?_
    refine l5 (eSG (oB 1 rfl ?_))
    exact l6 ⟨_,rfl,rfl⟩
end
end Go.Proofs.Ytlhgheonlcjpaaa.Sc
namespace Go.Proofs.Ytlhgheonlcjpaaa.Sc
open Go Go.Vm
structure Tok where
 k:Int
 t:List UInt8
 a:Nat
 l:Nat
deriving DecidableEq
def J4 (l:List Tok):List V:=l.flatMap fun t=>a4z t.k t.t t.a t.l
theorem a0u (l:List Tok):(J4 l).length = l.length * 4:=by
 induction l with
 | nil=>rfl
 | cons t r ih=>simp only [J4,List.flatMap_cons,List.length_append,List.length_cons] at ih ⊢; rw [ih]; simp only [a4z,List.length_cons,List.length_nil]; omega
theorem a2F (l:List Tok) (t:Tok):J4 (l ++ [t]) = J4 l ++ a4z t.k t.t t.a t.l:=by simp [J4]
inductive PR where
 | err (c:Int) (a:Nat)
 | fin (t:List UInt8) (e:Nat)
 | more (t:List UInt8) (e:Nat)
section
variable (s:List UInt8)
def a1b (q ins:Nat):Nat -> Nat -> List UInt8 -> PR
 | 0,_,_=>.err 11 q
 | f + 1,i,text =>
  match decide (i < s.length) && decide (32 <= (s.getD i 0).toNat) with
  | false=>.err 11 q
  | true=>match decide ((s.getD i 0).toNat = 34) with
   | true=>.fin text (i + 1)
   | false=>match decide ((s.getD i 0).toNat = 92) with
    | false=>a1b q ins f (i + 1) (text ++ [s.getD i 0])
    | true=>match decide ((s.getD (i + 1) 0).toNat = 110) with
     | true=>a1b q ins f (i + 2) (text ++ [10])
     | false=>match decide ((s.getD (i + 1) 0).toNat = 116) with
      | true=>a1b q ins f (i + 2) (text ++ [9])
      | false=>match decide ((s.getD (i + 1) 0).toNat = 92) || decide ((s.getD (i + 1) 0).toNat = 34) with
       | true=>a1b q ins f (i + 2) (text ++ [s.getD (i + 1) 0])
       | false=>match decide ((s.getD (i + 1) 0).toNat = 40) with
        | true=>match decide (3 <= ins) with
         | true=>.err 15 i
         | false=>.more text (i + 2)
        | false=>.err 12 i
theorem a0C (q ins:Nat):∀ (f g i:Nat) (text:List UInt8),s.length <= i + f -> s.length <= i + g -> a1b s q ins f i text = a1b s q ins g i text:=by
 have z:∀ (g i:Nat) (text:List UInt8),s.length <= i -> a1b s q ins g i text = .err 11 q:=by
  intro g i text h
  cases g with
  | zero=>rfl
  | succ g =>
   have:(decide (i < s.length) && decide (32 <= (s.getD i 0).toNat)) = false:=by rw [Bool.and_eq_false_iff,decide_eq_false_iff_not]; exact .inl (by omega)
   simp only [a1b,this]
 intro f
 induction f with
 | zero=>intro g i text h _; rw [z g i text (by omega)]; rfl
 | succ f ih =>
  intro g i text h1 h2
  cases g with
  | zero=>rw [z (f + 1) i text (by omega)]; rfl
  | succ g =>
   simp only [a1b]
   rw [ih g (i + 1) (text ++ [s.getD i 0]) (by omega) (by omega),ih g (i + 2) (text ++ [10]) (by omega) (by omega),ih g (i + 2) (text ++ [9]) (by omega) (by omega),ih g (i + 2) (text ++ [s.getD (i + 1) 0]) (by omega) (by omega)]
def part (q ins i:Nat) (text:List UInt8):PR:=a1b s q ins (s.length - i) i text
theorem Y7 (q ins i:Nat) (text:List UInt8):part s q ins i text =
  match decide (i < s.length) && decide (32 <= (s.getD i 0).toNat) with
  | false=>.err 11 q
  | true=>match decide ((s.getD i 0).toNat = 34) with
   | true=>.fin text (i + 1)
   | false=>match decide ((s.getD i 0).toNat = 92) with
    | false=>part s q ins (i + 1) (text ++ [s.getD i 0])
    | true=>match decide ((s.getD (i + 1) 0).toNat = 110) with
     | true=>part s q ins (i + 2) (text ++ [10])
     | false=>match decide ((s.getD (i + 1) 0).toNat = 116) with
      | true=>part s q ins (i + 2) (text ++ [9])
      | false=>match decide ((s.getD (i + 1) 0).toNat = 92) || decide ((s.getD (i + 1) 0).toNat = 34) with
       | true=>part s q ins (i + 2) (text ++ [s.getD (i + 1) 0])
       | false=>match decide ((s.getD (i + 1) 0).toNat = 40) with
        | true=>match decide (3 <= ins) with
         | true=>.err 15 i
         | false=>.more text (i + 2)
        | false=>.err 12 i:=by
 unfold part
 rw [a0C s q ins (s.length - i) (s.length - i + 1) i text (by omega) (by omega)]
 simp only [a1b]
 rw [a0C s q ins (s.length - i) (s.length - (i + 1)) (i + 1) _ (by omega) (by omega),a0C s q ins (s.length - i) (s.length - (i + 2)) (i + 2) (text ++ [10]) (by omega) (by omega),
  a0C s q ins (s.length - i) (s.length - (i + 2)) (i + 2) (text ++ [9]) (by omega) (by omega),a0C s q ins (s.length - i) (s.length - (i + 2)) (i + 2) (text ++ [s.getD (i + 1) 0]) (by omega) (by omega)]
structure MS where
 i:Nat
 toks:List Tok
 st:List (Nat × Int)
inductive MR where
 | go (x:MS)
 | done (l:List Tok)
 | err (c:Int) (a:Nat)
def K4 (toks:List Tok) (st:List (Nat × Int)) (q frm:Nat) (last more:Int):PR -> MR
 | .err c a=>.err c a
 | .fin t e=>.go ⟨e,toks ++ [⟨last,t,frm,e - frm⟩],st⟩
 | .more t e=>.go ⟨e,toks ++ [⟨more,t,frm,e - frm⟩],(q,0) :: st⟩
def bump (w:List UInt8):List (Nat × Int) -> List (Nat × Int)
 | []=>[]
 | (q,p) :: st=>match decide (w = [40]) with
  | true=>(q,p + 1) :: st
  | false=>match decide (w = [41]) with
   | true=>(q,p - 1) :: st
   | false=>(q,p) :: st
def closes (b:Nat):List (Nat × Int) -> Bool
 | []=>false
 | (_,p) :: _=>decide (p = 0) && decide (b = 41)
def roomy (toks:List Tok) (j:Nat) (r:MR):MR:=match decide (3000 <= toks.length) with | true=>.err 2 j | false=>r
def stepM (x:MS):MR :=
  let j:=G6 s x.i
  match decide (s.length <= j) with
  | true=>match x.st with
    | []=>.done x.toks
    | (q,_) :: _=>.err 11 q
  | false =>
    let b:=s.getD j 0
    match closes b.toNat x.st with
    | true=>match x.st with
      | []=>.err 0 0
      | (q,_) :: st=>roomy x.toks j (K4 x.toks st q j 7 6 (part s q st.length (j + 1) []))
    | false=>match decide (b.toNat = 34) with
      | true=>roomy x.toks j (K4 x.toks x.st j j 4 5 (part s j x.st.length (j + 1) []))
      | false=>match E9 b with
        | true=>roomy x.toks j (
            let r:=F8 E9 s j
            let w:=(s.take r).drop j
            match I9 w (s.getD r 0) with
            | true=>.err 13 j
            | false=>.go ⟨r,x.toks ++ [⟨3,w,j,r - j⟩],x.st⟩)
        | false=>match O8 b with
          | true=>roomy x.toks j (
              let r:=F8 L6 s j
              let w:=(s.take r).drop j
              match ltB 24 w.length with
              | true=>.err 14 j
              | false=>.go ⟨r,x.toks ++ [⟨a0P w,w,j,r - j⟩],x.st⟩)
          | false =>
            let w:=V8 s j 2
            match w with
            | []=>.err 10 j
            | w=>roomy x.toks j (.go ⟨j + w.length,x.toks ++ [⟨8,w,j,w.length⟩],bump w x.st⟩)
inductive Reach:MS -> MS -> Prop
 | refl (x:MS):Reach x x
 | step (x y z:MS):stepM s x = .go y -> Reach y z -> Reach x z
def Ends (x:MS) (r:MR):Prop:=∃ y,Reach s x y /\ stepM s y = r /\ (∀ z,r ≠ .go z)
theorem Reach.trans {x y z:MS} (h:Reach s x y) (g:Reach s y z):Reach s x z:=by
 induction h with
 | refl x=>exact g
 | step x y w h1 _ ih=>exact .step x y z h1 (ih g)
theorem Reach.one {x y:MS} (h:stepM s x = .go y):Reach s x y:=.step x y y h (.refl y)
theorem Ends.F5 {x y:MS} {r:MR} (h:Reach s x y) (g:Ends s y r):Ends s x r:=by
 obtain ⟨z,h1,h2⟩:=g; exact ⟨z,h.trans s h1,h2⟩
theorem Ends.det {x:MS} {r r':MR} (h:Ends s x r) (g:Ends s x r'):r = r':=by
 obtain ⟨y,h1,h2,h3⟩:=h
 obtain ⟨z,g1,g2,g3⟩:=g
 induction h1 with
 | refl x =>
  cases g1 with
  | refl=>rw [<- h2,<- g2]
  | step _ y _ k1 _=>rw [h2] at k1; exact absurd k1 (h3 y)
 | step x y w k1 k2 ih =>
  cases g1 with
  | refl=>rw [g2] at k1; exact absurd k1 (g3 y)
  | step _ y' _ m1 m2 =>
   rw [k1] at m1; cases m1
   exact ih h2 m2
def runM:Nat -> MS -> Option MR
 | 0,_=>none
 | f + 1,x=>match stepM s x with
  | .go y=>runM f y
  | r=>some r
theorem a6G:∀ {f:Nat} {x:MS} {r:MR},runM s f x = some r -> Ends s x r
 | f + 1,x,r,h=>by
  simp only [runM] at h
  cases hq:stepM s x with
  | go y=>rw [hq] at h; exact Ends.F5 s (Reach.one s hq) (a6G h)
  | done l=>rw [hq] at h; cases h; exact ⟨x,.refl x,hq,fun z hz=>by cases hz⟩
  | err c a=>rw [hq] at h; cases h; exact ⟨x,.refl x,hq,fun z hz=>by cases hz⟩
 | 0,x,r,h=>by cases h
end
end Go.Proofs.Ytlhgheonlcjpaaa.Sc
namespace Go.Proofs.Ytlhgheonlcjpaaa.Sc
open Go Go.Vm
theorem a0s (t:List UInt8):(F4 t).length = t.length * 1:=by simp [F4]
theorem Z4 (t:List UInt8) (b:UInt8):F4 t ++ [V.int .u8 (b.toNat:Nat)] = F4 (t ++ [b]):=by simp [F4]
theorem a1V (t:List UInt8) (b:UInt8):t.length + 1 = (t ++ [b]).length:=by simp
theorem a4C {o:Own} (t:List UInt8):a5P env.T 55 9 (.slice o t.length (F4 t)) = some (.str t):=by
 show (match X3 (F4 t) with | some l=>gd (eqN t.length l.length) (some (V.str l)) | none=>none) = _
 rw [a2U]
 exact gd_t (a0d rfl) rfl
def scE (s:List UInt8) (i:Nat) (toks:List Tok) (c a:Int) (e:Nat):Hp:=scH s i toks.length (J4 toks) c a e
theorem c46T (s:List UInt8) (i:Nat) (toks:List Tok) (c a:Int) (e:Nat) (k:Int) (t:List UInt8) (f:Nat) (hf:f <= i) (hi:i < 9223372036854775808) (he:e = 0 ∨ e = 4) (hn:toks.length <= 100000) :
  E env (.call 21 [.ptr 0 0,.i k,.str t,.i f]) (scE s i toks c a e) = some (.ret (.tuple []) (scE s i (toks ++ [⟨k,t,f,i - f⟩]) c a 4)):=by
 have h:=c46 s i toks.length (J4 toks) c a e k t f hf hi he hn (a0u toks)
 unfold scE
 rw [a2F,List.length_append]
 exact h
theorem c39F (s:List UInt8) (i:Nat) (toks:List Tok) (c a:Int) (e:Nat) (h:leB 3000 (toks.length:Nat) = false):E env (.call 14 [.ptr 0 0]) (scE s i toks c a e) = some (.ret (.bool true) (scE s i toks c a e)):=by
 have:=c39 s i toks.length (J4 toks) c a e
 rw [h] at this; exact this
theorem c39T (s:List UInt8) (i:Nat) (toks:List Tok) (c a:Int) (e:Nat) (h:leB 3000 (toks.length:Nat) = true):E env (.call 14 [.ptr 0 0]) (scE s i toks c a e) = some (.ret (.bool false) (scE s i toks 2 i e)):=by
 have:=c39 s i toks.length (J4 toks) c a e
 rw [h] at this; exact this
def OutP (s:List UInt8) (c a:Int) (P:Nat -> List Tok -> Prop) (Q:Int -> Nat -> Prop) (v:V) (H:Hp):Prop :=
 (v = .bool true /\ ∃ i' toks' e',H = scE s i' toks' c a e' /\ (e' = 0 ∨ e' = 4) /\ i' <= s.length /\ toks'.length <= 3000 /\ P i' toks') ∨
 (v = .bool false /\ ∃ (c':Int) (a' i' n':Nat) (tc':List V) (e':Nat),H = scH s i' n' tc' c' a' e' /\ Q c' a')
def AllOk (s:List UInt8) (nest:Nat):Prop:=∀ (i:Nat) (toks:List Tok) (st:List (Nat × Int)) (opn:Nat) (c a:Int) (e:Nat),i <= s.length -> toks.length <= 3000 -> (e = 0 ∨ e = 4) -> st.length + 1 = nest ->
 ∃ v H2,E env (.call 9 [.ptr 0 0,.i nest,.i opn]) (scE s i toks c a e) = some (.ret v H2) /\
  OutP s c a (fun i' toks'=>i <= i' /\ i' < s.length /\ (s.getD i' 0).toNat = 41 /\ ∃ i0,Reach s ⟨i,toks,(opn,0) :: st⟩ ⟨i0,toks',(opn,0) :: st⟩ /\ G6 s i0 = i')
   (fun c' a'=>Ends s ⟨i,toks,(opn,0) :: st⟩ (.err c' a')) v H2
def a4M (s:List UInt8) (nest:Nat):Prop:=∀ (i i0:Nat) (toks:List Tok) (st:List (Nat × Int)) (c a:Int) (e:Nat),G6 s i0 = i -> i < s.length -> (s.getD i 0).toNat = 34 -> toks.length < 3000 -> (e = 0 ∨ e = 4) -> st.length = nest ->
 ∃ v H2,E env (.call 15 [.ptr 0 0,.i nest]) (scE s i toks c a e) = some (.ret v H2) /\
  OutP s c a (fun i' toks'=>i < i' /\ Reach s ⟨i0,toks,st⟩ ⟨i',toks',st⟩) (fun c' a'=>Ends s ⟨i0,toks,st⟩ (.err c' a')) v H2
theorem a3J {b:Nat} {st:List (Nat × Int)} (h:b ≠ 41):closes b st = false:=by
 cases st with
 | nil=>rfl
 | cons x st=>simp [closes,h]
theorem a8i {s:List UInt8} {i i0:Nat} {toks:List Tok} {st:List (Nat × Int)} (h0:G6 s i0 = i) (hi:i < s.length) (hq:(s.getD i 0).toNat = 34) (ht:toks.length < 3000) :
  stepM s ⟨i0,toks,st⟩ = K4 toks st i i 4 5 (part s i st.length (i + 1) []):=by
 have h1:decide (s.length <= i) = false:=by simp; omega
 have h2:decide (3000 <= toks.length) = false:=by simp; omega
 simp only [stepM,h0,h1,a3J (st:=st) (b:=(s.getD i 0).toNat) (by omega),hq,decide_true,roomy,h2]
 rw [hq] at *
 simp only [a3J (st:=st) (b:=34) (by omega)]
theorem a0a {s:List UInt8} {i i0 q:Nat} {toks:List Tok} {st:List (Nat × Int)} (h0:G6 s i0 = i) (hi:i < s.length) (hq:(s.getD i 0).toNat = 41) :
  stepM s ⟨i0,toks,(q,0) :: st⟩ = roomy toks i (K4 toks st q i 7 6 (part s q st.length (i + 1) [])):=by
 have h1:decide (s.length <= i) = false:=by simp; omega
 simp only [stepM,h0,h1,closes,hq,decide_true,Bool.and_self]
structure LS where
 X:MS
 first:Bool
 text:List UInt8
 w:Nat
 j:Nat
 frm:Nat
 toks:List Tok
 e:Nat
end Go.Proofs.Ytlhgheonlcjpaaa.Sc
namespace Go.Proofs.Ytlhgheonlcjpaaa.Sc
open Go Go.Vm
section
variable {s:List UInt8} {q ins j:Nat} {text:List UInt8}
theorem part_end (h:s.length <= j):part s q ins j text = .err 11 q:=by
 have h1:(decide (j < s.length) && decide (32 <= (s.getD j 0).toNat)) = false:=by rw [Bool.and_eq_false_iff,decide_eq_false_iff_not]; exact .inl (by omega)
 rw [Y7]; simp only [h1]
theorem part_low (h:(s.getD j 0).toNat < 32):part s q ins j text = .err 11 q:=by
 have h1:(decide (j < s.length) && decide (32 <= (s.getD j 0).toNat)) = false:=by rw [Bool.and_eq_false_iff,decide_eq_false_iff_not,decide_eq_false_iff_not]; exact .inr (by omega)
 rw [Y7]; simp only [h1]
variable (h:j < s.length) (h2:32 <= (s.getD j 0).toNat)
include h h2
theorem a0T:(decide (j < s.length) && decide (32 <= (s.getD j 0).toNat)) = true:=by rw [Bool.and_eq_true,decide_eq_true_eq,decide_eq_true_eq]; exact ⟨h,h2⟩
theorem a5u (h3:(s.getD j 0).toNat = 34):part s q ins j text = .fin text (j + 1):=by
 rw [Y7,a0T h h2]; simp only [decide_eq_true h3]
theorem a6D (h3:(s.getD j 0).toNat ≠ 34) (h4:(s.getD j 0).toNat ≠ 92):part s q ins j text = part s q ins (j + 1) (text ++ [s.getD j 0]):=by
 rw [Y7,a0T h h2]; simp only [decide_eq_false h3,decide_eq_false h4]
variable (h4:(s.getD j 0).toNat = 92)
include h4
theorem Y3:decide ((s.getD j 0).toNat = 34) = false:=decide_eq_false (by omega)
theorem part_n (h5:(s.getD (j + 1) 0).toNat = 110):part s q ins j text = part s q ins (j + 2) (text ++ [10]):=by
 rw [Y7,a0T h h2]; simp only [Y3 h h2 h4,decide_eq_true h4,decide_eq_true h5]
theorem part_t (h5:(s.getD (j + 1) 0).toNat = 116):part s q ins j text = part s q ins (j + 2) (text ++ [9]):=by
 have h6:decide ((s.getD (j + 1) 0).toNat = 110) = false:=decide_eq_false (by omega)
 rw [Y7,a0T h h2]; simp only [Y3 h h2 h4,decide_eq_true h4,h6,decide_eq_true h5]
theorem a2i (h5:(s.getD (j + 1) 0).toNat = 92 ∨ (s.getD (j + 1) 0).toNat = 34):part s q ins j text = part s q ins (j + 2) (text ++ [s.getD (j + 1) 0]):=by
 have h6:decide ((s.getD (j + 1) 0).toNat = 110) = false:=decide_eq_false (by omega)
 have h7:decide ((s.getD (j + 1) 0).toNat = 116) = false:=decide_eq_false (by omega)
 have h8:(decide ((s.getD (j + 1) 0).toNat = 92) || decide ((s.getD (j + 1) 0).toNat = 34)) = true:=by rw [Bool.or_eq_true,decide_eq_true_eq,decide_eq_true_eq]; exact h5
 rw [Y7,a0T h h2]; simp only [Y3 h h2 h4,decide_eq_true h4,h6,h7,h8]
theorem b0o (h5:(s.getD (j + 1) 0).toNat = 40) (h9:3 <= ins):part s q ins j text = .err 15 j:=by
 have h6:decide ((s.getD (j + 1) 0).toNat = 110) = false:=decide_eq_false (by omega)
 have h7:decide ((s.getD (j + 1) 0).toNat = 116) = false:=decide_eq_false (by omega)
 have h8:(decide ((s.getD (j + 1) 0).toNat = 92) || decide ((s.getD (j + 1) 0).toNat = 34)) = false:=by rw [Bool.or_eq_false_iff,decide_eq_false_iff_not,decide_eq_false_iff_not]; omega
 rw [Y7,a0T h h2]; simp only [Y3 h h2 h4,decide_eq_true h4,h6,h7,h8,decide_eq_true h5,decide_eq_true h9]
theorem a3W (h5:(s.getD (j + 1) 0).toNat = 40) (h9:¬ 3 <= ins):part s q ins j text = .more text (j + 2):=by
 have h6:decide ((s.getD (j + 1) 0).toNat = 110) = false:=decide_eq_false (by omega)
 have h7:decide ((s.getD (j + 1) 0).toNat = 116) = false:=decide_eq_false (by omega)
 have h8:(decide ((s.getD (j + 1) 0).toNat = 92) || decide ((s.getD (j + 1) 0).toNat = 34)) = false:=by rw [Bool.or_eq_false_iff,decide_eq_false_iff_not,decide_eq_false_iff_not]; omega
 rw [Y7,a0T h h2]; simp only [Y3 h h2 h4,decide_eq_true h4,h6,h7,h8,decide_eq_true h5,decide_eq_false h9]
theorem part_bad (h5:(s.getD (j + 1) 0).toNat ≠ 110) (h6:(s.getD (j + 1) 0).toNat ≠ 116) (h7:(s.getD (j + 1) 0).toNat ≠ 92) (h8:(s.getD (j + 1) 0).toNat ≠ 34) (h9:(s.getD (j + 1) 0).toNat ≠ 40):part s q ins j text = .err 12 j:=by
 have h10:(decide ((s.getD (j + 1) 0).toNat = 92) || decide ((s.getD (j + 1) 0).toNat = 34)) = false:=by rw [Bool.or_eq_false_iff,decide_eq_false_iff_not,decide_eq_false_iff_not]; omega
 rw [Y7,a0T h h2]; simp only [Y3 h h2 h4,decide_eq_true h4,decide_eq_false h5,decide_eq_false h6,h10,decide_eq_false h9]
end
end Go.Proofs.Ytlhgheonlcjpaaa.Sc
