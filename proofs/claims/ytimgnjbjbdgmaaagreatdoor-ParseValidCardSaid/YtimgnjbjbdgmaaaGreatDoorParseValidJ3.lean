/- Texts of ParseValid, joined. -/
import Derived.Test.YtimgnjbjbdgmaaaGreatDoorParseValidJ2
set_option maxRecDepth 100000
set_option maxHeartbeats 20000000
set_option linter.all false
namespace Go.Proofs.YtimgnjbjbdgmaaaGreatDoor.Sc
open Go Go.Vm
theorem c31:E env (.call 163 []) []=some (.ret (.agg (a4A.map V.str)) []):=(a3O env).le 5 _ _ _ zKr
theorem c32:E env (.call 165 []) []=some (.ret (.agg (a3P.map V.str)) []):=(a3O env).le 5 _ _ _ zKr
def a2J (s:List UInt8)(i:Nat):Nat->List UInt8
 | 0=>[]
 | k+1=>match leB ((i+(k+1):Nat):Int) s.length&&b4M a3P ((s.take (i+(k+1))).drop i)with
  | true=>(s.take (i+(k+1))).drop i
  | false=>a2J s i k
section
variable (s:List UInt8) (i n:Nat) (tc:List V) (c a:Int) (e:Nat)
theorem c45 (hi:i<=s.length)(hs:s.length<4611686018427387904)(r:List UInt8)(hr:a2J s i 2=r):E env (.call 143 [.ptr 0 0]) (scH s i n tc c a e)=some (.ret (.str r) (scH s i n tc c a e)):=by
 refine U3 rfl Tryz.func143 rfl rfl ?_;refine eSG (oB 1 rfl (eSG ?_));refine L9 rfl rfl rfl rfl rfl (c32 ..) rfl ?_;refine oB 2 rfl (E8 (eSG (oB 1 rfl ?_)));refine M8 ?_;refine a4M rfl ?_;refine a6N (fun k:Nat=>[(0,.ptr 0 0),(3,.ptr 2 0),(4,.i k)]) (fun _=>[(0,.row [.str s,.i i,.slice (.tag 1) n tc,.i c,.i a]),(1,.tip e n),(2,.row (a3P.map V.str))]) (fun k=>k<=2/\a2J s i k=r) (fun k=>k) 2 ⟨Nat.le_refl _,hr⟩ ?_;intro k ⟨hk,hr⟩ ih;refine E8 (eSG (oB 2 rfl ?_));refine O6 rfl (fun h1=>?_) (fun h1=>?_)
 ·replace h1:0<k:=by simpa [ltB]using h1
  obtain⟨k,rfl⟩:∃k0,k=k0+1:=⟨k-1,zOm⟩
  refine H6 (E8 ?_);refine M8 ?_;refine eSG (oA 6 rfl ?_);refine o7 rfl rfl (addN zOm) ?_;refine oA 8 rfl ?_;refine J3 rfl rfl rfl (fun h2=>?_) (fun h2=>?_)
  ·have h2':i+(k+1)<=s.length:=by have h:=h2;rw[leN_,decide_eq_true_eq]at h;exact h
   refine o7 rfl rfl (a0M (a6X (a:=0) (b:=27) zOm zOm) rfl) ?_;refine oA 16 rfl ?_;refine o7 rfl rfl (addN zOm) ?_;refine o7 rfl rfl (a0M (a6X zOm zOm) rfl) ?_;refine oV (c66s _ _ rfl) ?_;refine oB 1 rfl ?_;refine O6 rfl (fun h3=>?_) (fun h3=>?_)
   ·simp only[Int.toNat_natCast]at h3;obtain rfl:(s.take (i+(k+1))).drop i=r:=by rw[<-hr];simp only[a2J,h2,h3,Bool.true_and]
    refine eSG (oA 16 rfl ?_);refine o7 rfl rfl (addN zOm) ?_;refine o7 rfl rfl (a0M (a6X zOm zOm) rfl) ?_;refine oB 1 rfl ?_;exact F7 ⟨_,rfl,rfl⟩
   simp only[Int.toNat_natCast]at h3;refine H6 (A7 (oA 1 rfl ?_));refine o7 rfl rfl (b9z zOm zOm) ?_;refine oB 1 rfl ?_;exact⟨_,_,rfl,ih k zOm ⟨zOm,by rw[<-hr];simp only[a2J,h2,h3,Bool.true_and]⟩⟩
  refine oB 21 rfl ?_;refine a0r rfl rfl ?_;refine H6 (A7 (oA 1 rfl ?_));refine o7 rfl rfl (b9z zOm zOm) ?_;refine oB 1 rfl ?_;exact⟨_,_,rfl,ih k zOm ⟨zOm,by rw[<-hr];simp only[a2J,h2,Bool.false_and]⟩⟩
 obtain rfl:k=0:=by simpa [ltB]using h1
 obtain rfl:[]=r:=hr;refine a2k ?_;refine eSG (oB 1 rfl ?_);exact F7 ⟨_,rfl,rfl⟩
end
def a6Q (w:List UInt8):Int:=match b4M a4A w with
 | true=>9
 | false=>match leB 65 (w.getD 0 0).toNat&&leB (w.getD 0 0).toNat 90 with|true=>2|false=>1
section
variable (s:List UInt8) (i n:Nat) (tc:List V) (c a:Int) (e:Nat)
theorem c44 (hi:i<=s.length)(hs:s.length<4611686018427387904)(he:e=0∨e=4)(hn:n<=100000)(htc:tc.length=n*4)(r:Nat)(hr:Z7 a0Z s i=r)(w:List UInt8)(hw:(s.take r).drop i=w)(hw0:0<w.length)(b:Bool)(hb:ltB 24 w.length=b) :
  E env (.call 142 [.ptr 0 0]) (scH s i n tc c a e)=some (.ret (.bool (!b)) (match b with|true=>scH s r n tc 14 i e|false=>scH s r (n+1) (tc++b44 (a6Q w) w i (r-i)) c a 4)):=by
 have h63:=c63 s i n tc c a e 162 a0Z rfl c65 hi hs;rw[hr,hw]at h63;have hri:i<=r:=by rw[<-hr];exact c2n
 have hrl:r<=s.length:=by rw[<-hr];exact a7m hi
 obtain⟨k,hk⟩:∃k,a6Q w=k:=⟨_,rfl⟩
 rw[hk];refine U3 rfl Tryz.func142 rfl rfl ?_;refine eSG (oB 1 rfl (eSG (oB 6 rfl (eSG (oA 3 rfl ?_)))));refine b30 rfl rfl rfl (a7I rfl rfl h63 rfl rfl rfl) ?_;refine oB 1 rfl (E8 (eSG (oB 3 rfl ?_)));refine O6 rfl (fun h1=>?_) (fun h1=>?_)
 ·obtain rfl:b=true:=by rw[<-hb];exact h1
  refine eSG (oA 2 rfl ?_);refine oV (c38 ..) ?_;refine oB 1 rfl ?_;exact F7 ⟨_,rfl,rfl⟩
 obtain rfl:b=false:=by rw[<-hb];exact h1
 refine H6 (eSG ?_);refine L9 rfl rfl rfl rfl rfl (c31 ..) rfl ?_;refine oB 2 rfl (eSG (oB 1 rfl (E8 (eSG ?_))));refine o7 rfl rfl (a0M (a6X (a:=0) (b:=32) zOm zOm) rfl) ?_;refine oA 1 rfl ?_;refine oV (c66w _ _ rfl) ?_;refine I4 ?_;refine O6 rfl (fun h2=>?_) (fun h2=>?_)
 ·obtain rfl:9=k:=by rw[<-hk];simp only[a6Q,h2]
  refine A7 (oB 1 rfl (eSG (oA 4 rfl ?_)));refine oV (c46 s r n tc c a e _ w i hri zOm he hn htc) ?_;refine I4 (eSG (oB 1 rfl ?_));exact F7 ⟨_,rfl,rfl⟩
 refine eSG (oA 1 rfl ?_);refine o7 rfl rfl (a0M (W9 (i:=0) hw0) rfl) ?_;refine oA 2 rfl ?_;refine J3 rfl rfl rfl (fun h3=>?_) (fun h3=>?_)
 ·refine oA 1 rfl ?_;refine o7 rfl rfl (a0M (W9 (i:=0) hw0) rfl) ?_;refine oB 2 rfl ?_;refine O6 rfl (fun h4=>?_) (fun h4=>?_)
  ·simp only[Int.toNat_zero]at h3 h4;obtain rfl:2=k:=by rw[<-hk];simp only[a6Q,h2,h3,h4,Bool.and_self]
   refine A7 (oB 1 rfl (eSG (oA 4 rfl ?_)));refine oV (c46 s r n tc c a e _ w i hri zOm he hn htc) ?_;refine I4 (eSG (oB 1 rfl ?_));exact F7 ⟨_,rfl,rfl⟩
  simp only[Int.toNat_zero]at h3 h4;obtain rfl:1=k:=by rw[<-hk];simp only[a6Q,h2,h3,h4,Bool.and_false]
  refine H6 (eSG (oA 4 rfl ?_));refine oV (c46 s r n tc c a e _ w i hri zOm he hn htc) ?_;refine I4 (eSG (oB 1 rfl ?_));exact F7 ⟨_,rfl,rfl⟩
 simp only[Int.toNat_zero]at h3;obtain rfl:1=k:=by rw[<-hk];simp only[a6Q,h2,h3,Bool.false_and]
 refine oB 4 rfl ?_;refine a0r rfl rfl ?_;refine H6 (eSG (oA 4 rfl ?_));refine oV (c46 s r n tc c a e _ w i hri zOm he hn htc) ?_;refine I4 (eSG (oB 1 rfl ?_));exact F7 ⟨_,rfl,rfl⟩
end
structure Tok where
 k:Int
 t:List UInt8
 a:Nat
 l:Nat
deriving DecidableEq
def a4v (l:List Tok):List V:=l.flatMap fun t=>b44 t.k t.t t.a t.l
theorem a6c (l:List Tok):(a4v l).length=l.length*4:=by
 induction l with
 | nil=>rfl
 | cons t r ih=>simp only[a4v,List.flatMap_cons,List.length_append,List.length_cons]at ih ⊢;rw[ih];simp only[b44,List.length_cons,List.length_nil];omega
theorem a6W (l:List Tok)(t:Tok):a4v (l++[t])=a4v l++b44 t.k t.t t.a t.l:=by simp[a4v]
inductive PR where
 | err (c:Int) (a:Nat)
 | fin (t:List UInt8) (e:Nat)
 | more (t:List UInt8) (e:Nat)
section
variable (s:List UInt8)
def b1t (q ins:Nat):Nat->Nat->List UInt8->PR
 | 0,_,_=>.err 11 q
 | f+1,i,text =>
  match decide (i<s.length)&&decide (32 <=(s.getD i 0).toNat)with
  | false=>.err 11 q
  | true=>match decide ((s.getD i 0).toNat=34)with
   | true=>.fin text (i+1)
   | false=>match decide ((s.getD i 0).toNat=92)with
    | false=>b1t q ins f (i+1) (text++[s.getD i 0])
    | true=>match decide ((s.getD (i+1) 0).toNat=110)with
     | true=>b1t q ins f (i+2) (text++[10])
     | false=>match decide ((s.getD (i+1) 0).toNat=116)with
      | true=>b1t q ins f (i+2) (text++[9])
      | false=>match decide ((s.getD (i+1) 0).toNat=92)||decide ((s.getD (i+1) 0).toNat=34)with
       | true=>b1t q ins f (i+2) (text++[s.getD (i+1) 0])
       | false=>match decide ((s.getD (i+1) 0).toNat=40)with
        | true=>match decide (3<=ins)with
         | true=>.err 15 i
         | false=>.more text (i+2)
        | false=>.err 12 i
theorem a98 (q ins:Nat):∀(f g i:Nat) (text:List UInt8),s.length<=i+f->s.length<=i+g->b1t s q ins f i text=b1t s q ins g i text:=by
 have z:∀(g i:Nat) (text:List UInt8),s.length<=i->b1t s q ins g i text=.err 11 q:=by
  intro g i text h;cases g with
  | zero=>rfl
  | succ g =>
   have:(decide (i<s.length)&&decide (32 <=(s.getD i 0).toNat))=false:=by rw[Bool.and_eq_false_iff,decide_eq_false_iff_not];exact .inl zOm
   simp only[b1t,this]
 intro f;induction f with
 | zero=>intro g i text h _;rw[z g i text zOm];rfl
 | succ f ih =>
  intro g i text h1 h2;cases g with
  | zero=>rw[z (f+1) i text zOm];rfl
  | succ g =>
   simp only[b1t];rw[ih g (i+1) (text++[s.getD i 0]) zOm zOm,ih g (i+2) (text++[10]) zOm zOm,ih g (i+2) (text++[9]) zOm zOm,ih g (i+2) (text++[s.getD (i+1) 0]) zOm zOm]
def part (q ins i:Nat)(text:List UInt8):PR:=b1t s q ins (s.length-i) i text
theorem a8Y (q ins i:Nat)(text:List UInt8):part s q ins i text =
  match decide (i<s.length)&&decide (32 <=(s.getD i 0).toNat)with
  | false=>.err 11 q
  | true=>match decide ((s.getD i 0).toNat=34)with
   | true=>.fin text (i+1)
   | false=>match decide ((s.getD i 0).toNat=92)with
    | false=>part s q ins (i+1) (text++[s.getD i 0])
    | true=>match decide ((s.getD (i+1) 0).toNat=110)with
     | true=>part s q ins (i+2) (text++[10])
     | false=>match decide ((s.getD (i+1) 0).toNat=116)with
      | true=>part s q ins (i+2) (text++[9])
      | false=>match decide ((s.getD (i+1) 0).toNat=92)||decide ((s.getD (i+1) 0).toNat=34)with
       | true=>part s q ins (i+2) (text++[s.getD (i+1) 0])
       | false=>match decide ((s.getD (i+1) 0).toNat=40)with
        | true=>match decide (3<=ins)with
         | true=>.err 15 i
         | false=>.more text (i+2)
        | false=>.err 12 i:=by
 unfold part;rw[a98 s q ins (s.length-i) (s.length-i+1) i text zOm zOm];simp only[b1t];rw[a98 s q ins (s.length-i) (s.length-(i+1)) (i+1) _ zOm zOm,a98 s q ins (s.length-i) (s.length-(i+2)) (i+2) (text++[10]) zOm zOm,
  a98 s q ins (s.length-i) (s.length-(i+2)) (i+2) (text++[9]) zOm zOm,a98 s q ins (s.length-i) (s.length-(i+2)) (i+2) (text++[s.getD (i+1) 0]) zOm zOm]
structure MS where
 i:Nat
 toks:List Tok
 st:List (Nat×Int)
variable {x y:MS}
inductive MR where
 | go (x:MS)
 | done (l:List Tok)
 | err (c:Int) (a:Nat)
variable {r:MR}
def a5Q (toks:List Tok)(st:List (Nat×Int))(q frm:Nat)(last more:Int):PR->MR | .err c a=>.err c a | .fin t e=>.go ⟨e,toks++[⟨last,t,frm,e-frm⟩],st⟩ | .more t e=>.go ⟨e,toks++[⟨more,t,frm,e-frm⟩],(q,0)::st⟩
def bump (w:List UInt8):List (Nat×Int)->List (Nat×Int)
 | []=>[]
 |(q,p)::st=>match decide (w=[40])with
  | true=>(q,p+1)::st
  | false=>match decide (w=[41])with
   | true=>(q,p-1)::st
   | false=>(q,p)::st
def closes (b:Nat):List (Nat×Int)->Bool | []=>false |(_,p)::_=>decide (p=0)&&decide (b=41)
def roomy (toks:List Tok)(j:Nat)(r:MR):MR:=match decide (3000<=toks.length)with|true=>.err 2 j|false=>r
def stepM (x:MS):MR :=
  let j:=a0K s x.i;match decide (s.length<=j)with
  | true=>match x.st with
    | []=>.done x.toks
    |(q,_)::_=>.err 11 q
  | false =>
    let b:=s.getD j 0;match closes b.toNat x.st with
    | true=>match x.st with
      | []=>.err 0 0
      |(q,_)::st=>roomy x.toks j (a5Q x.toks st q j 7 6 (part s q st.length (j+1) []))
    | false=>match decide (b.toNat=34)with
      | true=>roomy x.toks j (a5Q x.toks x.st j j 4 5 (part s j x.st.length (j+1) []))
      | false=>match O5 b with
        | true=>roomy x.toks j (
            let r:=Z7 O5 s j;let w:=(s.take r).drop j;match a0q w (s.getD r 0)with
            | true=>.err 13 j
            | false=>.go ⟨r,x.toks++[⟨3,w,j,r-j⟩],x.st⟩)
        | false=>match a1m b with
          | true=>roomy x.toks j (
              let r:=Z7 a0Z s j;let w:=(s.take r).drop j;match ltB 24 w.length with
              | true=>.err 14 j
              | false=>.go ⟨r,x.toks++[⟨a6Q w,w,j,r-j⟩],x.st⟩)
          | false =>
            let w:=a2J s j 2;match w with
            | []=>.err 10 j
            | w=>roomy x.toks j (.go ⟨j+w.length,x.toks++[⟨8,w,j,w.length⟩],bump w x.st⟩)
inductive Reach:MS->MS->Prop
 | refl (x:MS):Reach x x
 | step (x y z:MS):stepM s x=.go y->Reach y z->Reach x z
def Ends (x:MS)(r:MR):Prop:=∃y,Reach s x y/\stepM s y=r/\(∀z,r ≠ .go z)
theorem Reach.trans {z:MS}(h:Reach s x y)(g:Reach s y z):Reach s x z:=by
 induction h with
 | refl x=>exact g
 | step x y w h1 _ ih=>exact .step x y z h1 (ih g)
theorem Reach.one (h:stepM s x=.go y):Reach s x y:=.step x y y h (.refl y)
theorem Ends.a0s (h:Reach s x y)(g:Ends s y r):Ends s x r:=by
 obtain⟨z,h1,h2⟩:=g;exact⟨z,h.trans s h1,h2⟩
theorem Ends.det {r':MR}(h:Ends s x r)(g:Ends s x r'):r=r':=by
 obtain⟨y,h1,h2,h3⟩:=h;obtain⟨z,g1,g2,g3⟩:=g;induction h1 with
 | refl x =>
  cases g1 with
  | refl=>rw[<-h2,<-g2]
  | step _ y _ k1 _=>rw[h2]at k1;exact absurd k1 (h3 y)
 | step x y w k1 k2 ih =>
  cases g1 with
  | refl=>rw[g2]at k1;exact absurd k1 (g3 y)
  | step _ y' _ m1 m2 =>
   rw[k1]at m1;cases m1;exact ih h2 m2
def runM:Nat->MS->Option MR
 | 0,_=>none
 | f+1,x=>match stepM s x with
  | .go y=>runM f y
  | r=>some r
theorem b35:∀{f:Nat} {x:MS} {r:MR},runM s f x=some r->Ends s x r
 | f+1,x,r,h=>by
  simp only[runM]at h;cases hq:stepM s x with
  | go y=>rw[hq]at h;exact Ends.a0s s (Reach.one s hq) (b35 h)
  | done l=>rw[hq]at h;cases h;exact⟨x,.refl x,hq,fun z hz=>by cases hz⟩
  | err c a=>rw[hq]at h;cases h;exact⟨x,.refl x,hq,fun z hz=>by cases hz⟩
 | 0,x,r,h=>by cases h
end
variable {st:List (Nat×Int)} {s:List UInt8} {i i0:Nat}
theorem a6v (t:List UInt8):(a1n t).length=t.length*1:=by simp[a1n]
theorem a5K (t:List UInt8)(b:UInt8):a1n t++[V.int .u8 (b.toNat:Nat)]=a1n (t++[b]):=by simp[a1n]
theorem a8m (t:List UInt8)(b:UInt8):t.length+1 =(t++[b]).length:=zSi
theorem b3K {o:Own}(t:List UInt8):b58 env.T 53 9 (.slice o t.length (a1n t))=some (.str t):=by
 show(match a7p (a1n t)with|some l=>gd (eqN t.length l.length) (some (V.str l))|none=>none)=_;rw[b46];exact a9G (a2d rfl) rfl
def scE (s:List UInt8)(i:Nat)(toks:List Tok)(c a:Int)(e:Nat):Hp:=scH s i toks.length (a4v toks) c a e
theorem c46T (s:List UInt8)(i:Nat)(toks:List Tok)(c a:Int)(e:Nat)(k:Int)(t:List UInt8)(f:Nat)(hf:f<=i)(hi:i<9223372036854775808)(he:e=0∨e=4)(hn:toks.length<=100000) :
  E env (.call 144 [.ptr 0 0,.i k,.str t,.i f]) (scE s i toks c a e)=some (.ret (.tuple []) (scE s i (toks++[⟨k,t,f,i-f⟩]) c a 4)):=by
 have h:=c46 s i toks.length (a4v toks) c a e k t f hf hi he hn (a6c toks);unfold scE;rw[a6W,List.length_append];exact h
theorem c39F (s:List UInt8)(i:Nat)(toks:List Tok)(c a:Int)(e:Nat)(h:leB 3000 (toks.length:Nat)=false):E env (.call 137 [.ptr 0 0]) (scE s i toks c a e)=some (.ret (.bool true) (scE s i toks c a e)):=by
 have:=c39 s i toks.length (a4v toks) c a e;rw[h]at this;exact this
theorem c39T (s:List UInt8)(i:Nat)(toks:List Tok)(c a:Int)(e:Nat)(h:leB 3000 (toks.length:Nat)=true):E env (.call 137 [.ptr 0 0]) (scE s i toks c a e)=some (.ret (.bool false) (scE s i toks 2 i e)):=by
 have:=c39 s i toks.length (a4v toks) c a e;rw[h]at this;exact this
def OutP (s:List UInt8)(c a:Int)(P:Nat->List Tok->Prop)(Q:Int->Nat->Prop)(v:V)(H:Hp):Prop :=(v=.bool true /\ ∃i' toks' e',H=scE s i' toks' c a e'/\(e'=0∨e'=4)/\i'<=s.length/\toks'.length<=3000/\P i' toks')∨(v=.bool false /\ ∃(c':Int) (a' i' n':Nat) (tc':List V) (e':Nat),H=scH s i' n' tc' c' a' e'/\Q c' a')
def AllOk (s:List UInt8)(nest:Nat):Prop:=∀(i:Nat) (toks:List Tok) (st:List (Nat×Int)) (opn:Nat) (c a:Int) (e:Nat),i<=s.length->toks.length<=3000 ->(e=0∨e=4)->st.length+1=nest ->
 ∃v H2,E env (.call 85 [.ptr 0 0,.i nest,.i opn]) (scE s i toks c a e)=some (.ret v H2) /\
  OutP s c a (fun i' toks'=>i<=i'/\i'<s.length/\(s.getD i' 0).toNat=41 /\ ∃i0,Reach s ⟨i,toks,(opn,0)::st⟩ ⟨i0,toks',(opn,0)::st⟩/\a0K s i0=i')
   (fun c' a'=>Ends s ⟨i,toks,(opn,0)::st⟩ (.err c' a')) v H2
def b7T (s:List UInt8)(nest:Nat):Prop:=∀(i i0:Nat) (toks:List Tok) (st:List (Nat×Int)) (c a:Int) (e:Nat),a0K s i0=i->i<s.length ->(s.getD i 0).toNat=34->toks.length<3000 ->(e=0∨e=4)->st.length=nest ->
 ∃v H2,E env (.call 138 [.ptr 0 0,.i nest]) (scE s i toks c a e)=some (.ret v H2) /\
  OutP s c a (fun i' toks'=>i<i'/\Reach s ⟨i0,toks,st⟩ ⟨i',toks',st⟩) (fun c' a'=>Ends s ⟨i0,toks,st⟩ (.err c' a')) v H2
theorem b3J {b:Nat}(h:b≠41):closes b st=false:=by
 cases st with
 | nil=>rfl
 | cons x st=>simp[closes,h]
theorem c4z {toks:List Tok}(h0:a0K s i0=i)(hi:i<s.length)(hq:(s.getD i 0).toNat=34)(ht:toks.length<3000) :
  stepM s ⟨i0,toks,st⟩=a5Q toks st i i 4 5 (part s i st.length (i+1) []):=by
 have h1:decide (s.length<=i)=false:=by simp;omega
 have h2:decide (3000<=toks.length)=false:=by simp;omega
 simp only[stepM,h0,h1,b3J (st:=st) (b:=(s.getD i 0).toNat) zOm,hq,decide_true,roomy,h2];rw[hq]at *;simp only[b3J (st:=st) (b:=34) zOm]
theorem a9o {q:Nat}{toks:List Tok}(h0:a0K s i0=i)(hi:i<s.length)(hq:(s.getD i 0).toNat=41) :
  stepM s ⟨i0,toks,(q,0)::st⟩=roomy toks i (a5Q toks st q i 7 6 (part s q st.length (i+1) [])):=by
 have h1:decide (s.length<=i)=false:=by simp;omega
 simp only[stepM,h0,h1,closes,hq,decide_true,Bool.and_self]
structure LS where
 X:MS
 first:Bool
 text:List UInt8
 w:Nat
 j:Nat
 frm:Nat
 toks:List Tok
 e:Nat
section
variable {s:List UInt8} {q ins j:Nat} {text:List UInt8}
theorem c4c (h:s.length<=j):part s q ins j text=.err 11 q:=by
 have h1:(decide (j<s.length)&&decide (32 <=(s.getD j 0).toNat))=false:=by rw[Bool.and_eq_false_iff,decide_eq_false_iff_not];exact .inl zOm
 rw[a8Y];simp only[h1]
theorem c4d (h:(s.getD j 0).toNat<32):part s q ins j text=.err 11 q:=by
 have h1:(decide (j<s.length)&&decide (32 <=(s.getD j 0).toNat))=false:=by rw[Bool.and_eq_false_iff,decide_eq_false_iff_not,decide_eq_false_iff_not];exact .inr zOm
 rw[a8Y];simp only[h1]
variable (h:j<s.length) (h2:32 <=(s.getD j 0).toNat)
include h h2
theorem b0B:(decide (j<s.length)&&decide (32 <=(s.getD j 0).toNat))=true:=by rw[Bool.and_eq_true,decide_eq_true_eq,decide_eq_true_eq];exact⟨h,h2⟩
theorem b85 (h3:(s.getD j 0).toNat=34):part s q ins j text=.fin text (j+1):=by
 rw[a8Y,b0B h h2];simp only[decide_eq_true h3]
theorem c0J (h3:(s.getD j 0).toNat≠34)(h4:(s.getD j 0).toNat≠92):part s q ins j text=part s q ins (j+1) (text++[s.getD j 0]):=by
 rw[a8Y,b0B h h2];simp only[decide_eq_false h3,decide_eq_false h4]
variable (h4:(s.getD j 0).toNat=92)
include h4
theorem a8Q:decide ((s.getD j 0).toNat=34)=false:=decide_eq_false zOm
theorem part_n (h5:(s.getD (j+1) 0).toNat=110):part s q ins j text=part s q ins (j+2) (text++[10]):=by
 rw[a8Y,b0B h h2];simp only[a8Q h h2 h4,decide_eq_true h4,decide_eq_true h5]
theorem part_t (h5:(s.getD (j+1) 0).toNat=116):part s q ins j text=part s q ins (j+2) (text++[9]):=by
 have h6:decide ((s.getD (j+1) 0).toNat=110)=false:=decide_eq_false zOm;rw[a8Y,b0B h h2];simp only[a8Q h h2 h4,decide_eq_true h4,h6,decide_eq_true h5]
theorem b6B (h5:(s.getD (j+1) 0).toNat=92∨(s.getD (j+1) 0).toNat=34):part s q ins j text=part s q ins (j+2) (text++[s.getD (j+1) 0]):=by
 have h6:decide ((s.getD (j+1) 0).toNat=110)=false:=decide_eq_false zOm;have h7:decide ((s.getD (j+1) 0).toNat=116)=false:=decide_eq_false zOm;have h8:(decide ((s.getD (j+1) 0).toNat=92)||decide ((s.getD (j+1) 0).toNat=34))=true:=by rw[Bool.or_eq_true,decide_eq_true_eq,decide_eq_true_eq];exact h5
 rw[a8Y,b0B h h2];simp only[a8Q h h2 h4,decide_eq_true h4,h6,h7,h8]
theorem c0K (h5:(s.getD (j+1) 0).toNat=40)(h9:3<=ins):part s q ins j text=.err 15 j:=by
 have h6:decide ((s.getD (j+1) 0).toNat=110)=false:=decide_eq_false zOm;have h7:decide ((s.getD (j+1) 0).toNat=116)=false:=decide_eq_false zOm;have h8:(decide ((s.getD (j+1) 0).toNat=92)||decide ((s.getD (j+1) 0).toNat=34))=false:=by rw[Bool.or_eq_false_iff,decide_eq_false_iff_not,decide_eq_false_iff_not];omega
 rw[a8Y,b0B h h2];simp only[a8Q h h2 h4,decide_eq_true h4,h6,h7,h8,decide_eq_true h5,decide_eq_true h9]
theorem b6A (h5:(s.getD (j+1) 0).toNat=40)(h9:¬3<=ins):part s q ins j text=.more text (j+2):=by
 have h6:decide ((s.getD (j+1) 0).toNat=110)=false:=decide_eq_false zOm;have h7:decide ((s.getD (j+1) 0).toNat=116)=false:=decide_eq_false zOm;have h8:(decide ((s.getD (j+1) 0).toNat=92)||decide ((s.getD (j+1) 0).toNat=34))=false:=by rw[Bool.or_eq_false_iff,decide_eq_false_iff_not,decide_eq_false_iff_not];omega
 rw[a8Y,b0B h h2];simp only[a8Q h h2 h4,decide_eq_true h4,h6,h7,h8,decide_eq_true h5,decide_eq_false h9]
theorem c4b (h5:(s.getD (j+1) 0).toNat≠110)(h6:(s.getD (j+1) 0).toNat≠116)(h7:(s.getD (j+1) 0).toNat≠92)(h8:(s.getD (j+1) 0).toNat≠34)(h9:(s.getD (j+1) 0).toNat≠40):part s q ins j text=.err 12 j:=by
 have h10:(decide ((s.getD (j+1) 0).toNat=92)||decide ((s.getD (j+1) 0).toNat=34))=false:=by rw[Bool.or_eq_false_iff,decide_eq_false_iff_not,decide_eq_false_iff_not];omega
 rw[a8Y,b0B h h2];simp only[a8Q h h2 h4,decide_eq_true h4,decide_eq_false h5,decide_eq_false h6,h10,decide_eq_false h9]
end
end Go.Proofs.YtimgnjbjbdgmaaaGreatDoor.Sc
