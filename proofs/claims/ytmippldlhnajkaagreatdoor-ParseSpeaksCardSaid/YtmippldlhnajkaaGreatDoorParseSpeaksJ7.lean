/- What the functions under ParseSpeaks compute, step by step, as functions in Lean: texts that were built one by one, joined. -/
import Derived.Test.YtmippldlhnajkaaGreatDoorParseSpeaksJ6
set_option maxRecDepth 100000
set_option maxHeartbeats 20000000
set_option linter.unusedSimpArgs false
set_option linter.unusedVariables false
set_option linter.unusedSectionVars false
namespace Go.Proofs.YtmippldlhnajkaaGreatDoor.Sc
open Go Go.Vm
theorem getD_lt' {s:List UInt8}{k:Nat}(h:(s.getD k 0).toNat≠0):k<s.length:=by
 rcases Nat.lt_or_ge k s.length with h1|h1
 ·exact h1
 ·rw[b2h h1]at h;exact absurd rfl h
def PRok (s:List UInt8)(i:Nat):PR->Prop
 | .err c _=>c=11∨c=12∨c=15
 | .fin _ e=>i<e/\e<=s.length
 | .more _ e=>i<e/\e<=s.length
theorem PRok.mono {s:List UInt8}{i j:Nat}(h:i<=j):∀{r:PR},PRok s j r->PRok s i r
 | .err _ _,g=>g
 | .fin _ _,g=>⟨Nat.lt_of_le_of_lt h g.1,g.2⟩
 | .more _ _,g=>⟨Nat.lt_of_le_of_lt h g.1,g.2⟩
theorem b9N (s:List UInt8)(q ins:Nat):∀(f i:Nat) (text:List UInt8),PRok s i (a6a s q ins f i text)
 | 0,i,text=>.inl rfl
 | f+1,i,text=>by
  have ih:=b9N s q ins f
  simp only[a6a]
  split
  ·exact .inl rfl
  ·rename_i h1
   simp only[Bool.and_eq_true,decide_eq_true_eq]at h1
   split
   ·exact⟨by omega,by omega⟩
   ·split
    ·exact(ih (i+1) _).mono (by omega)
    ·split
     ·exact(ih (i+2) _).mono (by omega)
     ·split
      ·exact(ih (i+2) _).mono (by omega)
      ·split
       ·exact(ih (i+2) _).mono (by omega)
       ·split
        ·rename_i h2
         simp only[decide_eq_true_eq]at h2
         split
         ·exact .inr (.inr rfl)
         ·have:=getD_lt' (s:=s) (k:=i+1) (by omega)
          exact⟨by omega,by omega⟩
        ·exact .inr (.inl rfl)
theorem b75 (s:List UInt8)(q ins i:Nat)(text:List UInt8):PRok s i (part s q ins i text):=b9N s q ins _ i text
section
variable {s:List UInt8} {i i0:Nat} {toks:List Tok} {st:List (Nat×Int)} (h0:U5 s i0=i) (hi:i<s.length)
include h0 hi
theorem c1D (hb:(s.getD i 0).toNat=41):a0f s i 2 ≠ []:=by
 have h1:leB ((i+1:Nat):Int) s.length=true:=by simp only[leB,decide_eq_true_eq];omega
 simp only[a0f,h1,Bool.true_and]
 split
 ·rename_i hx
  simp only[Bool.and_eq_true,leB,decide_eq_true_eq]at hx
  have hl:((s.take (i+2)).drop i).length=2:=by rw[List.length_drop,List.length_take];omega
  intro e
  have:((s.take (i+2)).drop i).length=0:=by rw[show(s.take (i+2)).drop i=[]from e];rfl
  omega
 ·have hd:(s.take (i+(0+1))).drop i=[41]:=by
   have e1:(s.take (i+1)).drop i=[s.getD i 0]:=by
    rw[List.take_succ_eq_append_getElem hi,List.drop_append_of_le_length (by simp;omega)]
    simp[hi]
   rw[Nat.zero_add,e1,show s.getD i 0=41 from UInt8.toNat_inj.1 hb]
  rw[hd,show b1G a0Z [41]=true by decide]
  simp
theorem c0X (hn:(decide ((s.getD i 0).toNat=34)||J2 (s.getD i 0)||X5 (s.getD i 0)||decide (a0f s i 2 ≠ []))=false):stepM s ⟨i0,toks,st⟩=.err 10 i:=by
 simp only[Bool.or_eq_false_iff,decide_eq_false_iff_not]at hn
 obtain⟨⟨⟨h1,h2⟩,h3⟩,h4⟩:=hn
 have h4:a0f s i 2=[]:=by cases h:a0f s i 2 with
  | nil=>rfl
  | cons a l=>rw[h]at h4;exact absurd (by simp) h4
 refine a4w h0 hi (b0E fun hb=>c1D h0 hi hb h4) h1 h2 h3 h4
theorem a3e {q:Nat}{p:Int}(hc:closes (s.getD i 0).toNat ((q,p)::st)=true):p=0/\stepM s ⟨i0,toks,(q,p)::st⟩=roomy toks i (a1g toks st q i 7 6 (part s q st.length (i+1) [])):=by
 have h:=hc
 simp only[closes,Bool.and_eq_true,decide_eq_true_eq]at h
 obtain⟨rfl,h2⟩:=h
 exact⟨rfl,a5Q h0 hi h2⟩
theorem c1W (hn:(decide ((s.getD i 0).toNat=34)||J2 (s.getD i 0)||X5 (s.getD i 0)||decide (a0f s i 2 ≠ []))=true)(ht:toks.length=3000):stepM s ⟨i0,toks,st⟩=.err 2 i:=by
 have hr:∀r,roomy toks i r=.err 2 i:=fun r=>a4v (by simp only[leB,decide_eq_true_eq];omega)
 cases hc:closes (s.getD i 0).toNat st with
 | true =>
  cases st with
  | nil=>cases hc
  | cons x st=>obtain⟨q,p⟩:=x;rw[(a3e h0 hi hc).2,hr]
 | false =>
  by_cases h1:(s.getD i 0).toNat=34
  ·rw[a4G h0 hi hc h1,hr]
  ·cases h2:J2 (s.getD i 0)with
   | true=>rw[a2y h0 hi hc h1 h2,hr]
   | false =>
    cases h3:X5 (s.getD i 0)with
    | true=>rw[a1O h0 hi hc h1 h2 h3,hr]
    | false =>
     rw[h2,h3,decide_eq_false h1]at hn
     simp only[Bool.false_or,decide_eq_true_eq]at hn
     rw[a1Z h0 hi hc h1 h2 h3 rfl hn,hr]
theorem c4d (hc:closes (s.getD i 0).toNat st=false)(h1:(s.getD i 0).toNat≠34)(hn:(decide ((s.getD i 0).toNat=34)||J2 (s.getD i 0)||X5 (s.getD i 0)||decide (a0f s i 2 ≠ []))=true)(ht:toks.length<3000) :
  (∃c,c≠0/\b07 s i=b2q none c i/\stepM s ⟨i0,toks,st⟩=.err c i)∨(∃t:Tok,b07 s i=b2q (some t) 0 0/\0<t.l/\i+t.l<=s.length/\stepM s ⟨i0,toks,st⟩=.go ⟨i+t.l,toks++[t],match decide (t.k=8)with|true=>bump t.t st|false=>st⟩):=by
 have hr:∀r,roomy toks i r=r:=fun r=>a8w (by simp only[leB,decide_eq_false_iff_not];omega)
 have hi1:i<=s.length:=by omega
 cases h2:J2 (s.getD i 0)with
 | true =>
  rw[a2y h0 hi hc h1 h2,hr]
  have hg:=a5i hi h2
  have hl:=a3R (p:=J2) hi1
  cases hb:U0 ((s.take (Q5 J2 s i)).drop i) (s.getD (Q5 J2 s i) 0)with
  | true=>exact .inl ⟨13,by decide,by unfold b07;simp only[h2,hb],rfl⟩
  | false=>exact .inr ⟨⟨3,(s.take (Q5 J2 s i)).drop i,i,Q5 J2 s i-i⟩,by unfold b07;simp only[h2,hb],by show 0<Q5 J2 s i-i;omega,by show i+(Q5 J2 s i-i)<=_;omega,by show _=MR.go ⟨i+(Q5 J2 s i-i),_,_⟩;rw[show i+(Q5 J2 s i-i)=Q5 J2 s i by omega];rfl⟩
 | false =>
  cases h3:X5 (s.getD i 0)with
  | true =>
   rw[a1O h0 hi hc h1 h2 h3,hr]
   have hg:=a5i (p:=V8) hi (by simp only[V8,h3,Bool.true_or])
   have hl:=a3R (p:=V8) hi1
   cases hb:ltB 24 ((s.take (Q5 V8 s i)).drop i).length with
   | true=>exact .inl ⟨14,by decide,by unfold b07;simp only[h2,h3,hb],rfl⟩
   | false =>
    refine .inr ⟨⟨a3n ((s.take (Q5 V8 s i)).drop i),(s.take (Q5 V8 s i)).drop i,i,Q5 V8 s i-i⟩,by unfold b07;simp only[h2,h3,hb],by show 0<Q5 V8 s i-i;omega,by show i+(Q5 V8 s i-i)<=_;omega,?_⟩
    show _=MR.go ⟨i+(Q5 V8 s i-i),_,match decide (a3n _=8)with|true=>_|false=>_⟩
    have hk:∀w,decide (a3n w=8)=false:=by
     intro w;unfold a3n;split
     ·simp
     ·split<;>simp
    rw[show i+(Q5 V8 s i-i)=Q5 V8 s i by omega,hk]
  | false =>
   rw[h2,h3,decide_eq_false h1]at hn
   simp only[Bool.false_or,decide_eq_true_eq]at hn
   rw[a1Z h0 hi hc h1 h2 h3 rfl hn,hr]
   have hl:=b0Z 2 hi1
   refine .inr ⟨⟨8,a0f s i 2,i,(a0f s i 2).length⟩,?_,List.length_pos_iff.2 hn,by show i+(a0f s i 2).length<=_;omega,rfl⟩
   unfold b07;simp only[h2,h3]
end
def qL (st:List (Nat×Int)):List V:=st.reverse.map fun x=>V.i (x.1:Int)
def pL (st:List (Nat×Int)):List V:=st.reverse.map fun x=>V.i x.2
theorem b8g (st:List (Nat×Int)):(qL st).length=st.length:=by simp[qL]
theorem a7G (st:List (Nat×Int)):(pL st).length=st.length:=by simp[pL]
theorem a8R (q:Nat)(p:Int)(st:List (Nat×Int)):qL ((q,p)::st)=qL st++[.i (q:Int)]:=by simp[qL]
theorem b2s (q:Nat)(p:Int)(st:List (Nat×Int)):pL ((q,p)::st)=pL st++[.i p]:=by simp[pL]
theorem qL_top (q:Nat)(p:Int)(st:List (Nat×Int))(j:List V):(qL ((q,p)::st)++j)[st.length]? = some (.i (q:Int)):=by
 rw[a8R,List.append_assoc,List.getElem?_append_right (by rw[b8g];omega),b8g];simp
theorem c1B (q:Nat)(p:Int)(st:List (Nat×Int))(j:List V):(pL ((q,p)::st)++j)[st.length]? = some (.i p):=by
 rw[b2s,List.append_assoc,List.getElem?_append_right (by rw[a7G];omega),a7G];simp
theorem pL_set (q:Nat)(p p':Int)(st:List (Nat×Int))(j:List V):K6 (pL ((q,p)::st)++j) st.length [.i p']=pL ((q,p')::st)++j:=by
 have h:(pL ((q,p)::st)++j)=pL st ++([V.i p]++j):=by rw[b2s,List.append_assoc]
 unfold K6
 rw[h,b2s,List.take_append_of_le_length (by rw[a7G];omega),List.take_of_length_le (by rw[a7G];omega),List.drop_append,List.drop_of_length_le (by rw[a7G];simp)]
 rw[a7G]
 simp
theorem ldG {r k:Nat}{H:Hp}{cs:List V}{v:V}(h:hget r H=some (.grow 1 cs))(hv:cs[k]? = some v):a2C env.T 3 (.ptr r (0+(k:Int).toNat*1)) H=some v:=by
 show(match hget r H with|some (.row cs)=>_|some (.grow _ cs)=>cs[0+(k:Int).toNat*1]? | _=>none)=_
 rw[h]
 simpa using hv
structure RS where
 i0:Nat
 i:Nat
 toks:List Tok
 st:List (Nat×Int)
 jq:List V
 jp:List V
 e:Nat
end Go.Proofs.YtmippldlhnajkaaGreatDoor.Sc
namespace Go.Proofs.YtmippldlhnajkaaGreatDoor.Sc
open Go Go.Vm
theorem b2S {st:List (Nat×Int)}(h:ltB 0 (st.length:Nat)=true):∃q p st',st =(q,p)::st':=by
 cases st with
 | nil=>simp[ltB]at h
 | cons x st=>exact⟨x.1,x.2,st,rfl⟩
theorem c0Y {b:Nat}{st:List (Nat×Int)}(h:closes b st=true):ltB 0 (st.length:Nat)=true:=by
 cases st with
 | nil=>cases h
 | cons x st=>simp only[ltB,decide_eq_true_eq,List.length_cons];omega
theorem closesA {b q:Nat}{p:Int}{st:List (Nat×Int)}(h:eqB (b:Int) 41=true):closes b ((q,p)::st)=eqB p 0:=by
 simp only[eqB,beq_iff_eq]at h ⊢
 obtain rfl:b=41:=by omega
 simp only[closes,decide_true,Bool.and_true]
 rw[Bool.eq_iff_iff];simp
theorem closesB {b:Nat}{st:List (Nat×Int)}(h:eqB (b:Int) 41=false):closes b st=false:=by
 simp only[eqB,beq_eq_false_iff_ne,ne_eq]at h
 exact b0E (by omega)
theorem closesC {b:Nat}{st:List (Nat×Int)}(h:ltB 0 (st.length:Nat)=false):closes b st=false:=by
 cases st with
 | nil=>rfl
 | cons x st=>simp only[ltB,List.length_cons,decide_eq_false_iff_not]at h;omega
structure QS where
 q:Nat
 st:List (Nat×Int)
 last:Int
 more:Int
section
variable {z st:List (Nat×Int)} (h:z=st ∨ ∃y,st=y::z)
include h
theorem sub_len:z.length<=st.length:=by
 rcases h with rfl |⟨y,rfl⟩
 ·exact Nat.le_refl _
 ·simp
theorem sub_mem:∀y∈z,y∈st:=by
 rcases h with rfl |⟨y,rfl⟩
 ·exact fun y hy=>hy
 ·exact fun y hy=>List.mem_cons_of_mem _ hy
theorem sub_qp (jq jp:List V):∃jq' jp',qL st++jq=qL z++jq'/\pL st++jp=pL z++jp':=by
 rcases h with rfl |⟨⟨q,p⟩,rfl⟩
 ·exact⟨jq,jp,rfl,rfl⟩
 ·exact⟨_,_,by rw[a8R,List.append_assoc],by rw[b2s,List.append_assoc]⟩
end
theorem qL_push (q:Nat)(st:List (Nat×Int))(j:List V):(qL st++j).take (st.length*1)++[V.i (q:Int)]=qL ((q,0)::st)++[]:=by
 rw[Nat.mul_one,<-b8g st,List.take_left,a8R,List.append_nil]
theorem pL_push (q:Nat)(st:List (Nat×Int))(j:List V):(pL st++j).take (st.length*1)++[V.i 0]=pL ((q,0)::st)++[]:=by
 rw[Nat.mul_one,<-a7G st,List.take_left,b2s,List.append_nil]
theorem neq_err {s:List UInt8}{i a:Nat}{c:Int}(h:PRok s i (.err c a)):(!eqB c 0)=true:=by
 rcases h with rfl|rfl|rfl<;>simp[eqB]
theorem c1q:(!eqB 0 0)=false:=by simp[eqB]
theorem neq_no {c:Int}(h:c≠0):(!eqB c 0)=true:=by simp[eqB,h]
theorem a8a (l:List Tok)(t:Tok):l.length+1 =(l++[t]).length:=by simp
theorem andA {st:List (Nat×Int)}{t:Tok}{c:List UInt8}(h1:ltB 0 (st.length:Nat)=true)(h2:eqB t.k 8=true):eqS t.t c =(decide (0<st.length)&&decide (t.k=8)&&decide (t.t=c)):=by
 simp only[ltB,decide_eq_true_eq]at h1
 simp only[eqB,beq_iff_eq]at h2
 rw[decide_eq_true (show 0<st.length by omega),decide_eq_true h2]
 simp only[eqS,Bool.true_and]
 rw[Bool.eq_iff_iff];simp
theorem andB {st:List (Nat×Int)}{t:Tok}{c:List UInt8}(h2:eqB t.k 8=false):false =(decide (0<st.length)&&decide (t.k=8)&&decide (t.t=c)):=by
 simp only[eqB,beq_eq_false_iff_ne,ne_eq]at h2
 rw[decide_eq_false h2];simp
theorem andC {st:List (Nat×Int)}{t:Tok}{c:List UInt8}(h1:ltB 0 (st.length:Nat)=false):false =(decide (0<st.length)&&decide (t.k=8)&&decide (t.t=c)):=by
 simp only[ltB,decide_eq_false_iff_not]at h1
 rw[decide_eq_false (show ¬0<st.length by omega)];simp
theorem bump_no {st:List (Nat×Int)}{t:Tok}(hu:false =(decide (0<st.length)&&decide (t.k=8)&&decide (t.t=[40])))(hw:false =(decide (0<st.length)&&decide (t.k=8)&&decide (t.t=[41]))):(match decide (t.k=8)with|true=>bump t.t st|false=>st)=st:=by
 cases st with
 | nil=>cases decide (t.k=8)<;>rfl
 | cons x st =>
  cases h:decide (t.k=8)with
  | false=>rfl
  | true =>
   rw[h]at hu hw
   simp only[List.length_cons,Nat.zero_lt_succ,decide_true,Bool.true_and]at hu hw
   obtain⟨q,p⟩:=x
   simp only[bump,<-hu,<-hw]
theorem stG {r k:Nat}{H:Hp}{cs:List V}{n:Int}(h:hget r H=some (.grow 1 cs))(hk:k+1<=cs.length):a3H env.T 3 (.ptr r (0+(k:Int).toNat*1)) (.i n) H=some (hset r (.grow 1 (K6 cs k [.i n])) H):=by
 have h1:leN (0+(k:Int).toNat*1+1) cs.length=true:=a7F (by simp;omega)
 show(match hget r H with|some (.row cs)=>_|some (.grow e cs)=>gd (leN (0+(k:Int).toNat*1+1) cs.length) (some (hset r (.grow e (K6 cs (0+(k:Int).toNat*1) [.i n])) H))|_=>none)=_
 rw[h]
 simp only[h1,gd]
 congr 4
 simp
theorem stG2 {r k:Nat}{H H1:Hp}{cs cs':List V}{n:Int}(h:hget r H=some (.grow 1 cs))(hk:k+1<=cs.length)(hc:K6 cs k [.i n]=cs')(hH:U7 (some (hset r (.grow 1 cs') H))=some H1):U7 (a3H env.T 3 (.ptr r (0+(k:Int).toNat*1)) (.i n) H)=some H1:=by
 rw[stG h hk,hc];exact hH
theorem c12P {s:List UInt8}(h0:s.length<=8000):∃v H2,E env (.call 38 [.str s]) []=some (.ret v H2)/\H2=[] /\ ∃r,Ends s ⟨0,[],[]⟩ r/\v=b0A r:=by
  have hs4:s.length<4611686018427387904:=by omega
  refine b0D rfl Tryz.func38 rfl rfl ?_
  refine eSG (oB 2 rfl (q9 (eSG (oB 3 rfl ?_))))
  refine J4 rfl (fun g21=>?_) (fun g21=>?_)
  · exfalso;simp only[ltB,decide_eq_true_eq]at g21;omega
  · refine D5 (eSG (oB 1 rfl (eSG (oB 2 rfl (eSG (oA 1 rfl ?_))))))
    refine G9 rfl rfl rfl rfl rfl (c27 s 0 (Nat.zero_le _) hs4) rfl ?_
    refine oB 1 rfl (q9 ?_)
    refine I7 ?_
    refine a1D rfl ?_
    refine a3j (fun x:RS=>[(0,.str s),(3,.ptr 0 0),(5,.rslice 1 0 x.st.length true),(6,.rslice 2 0 x.st.length true),(4,.slice (.tag 3) x.toks.length (a1m x.toks)),(7,.i (x.i:Nat))]) (fun x=>[(0,.row [.i 0,.i 0]),(1,.grow 1 (qL x.st ++ x.jq)),(2,.grow 1 (pL x.st ++ x.jp)),(3,.tip x.e x.toks.length)])
        (fun x=>U5 s x.i0=x.i/\x.i<=s.length/\x.toks.length<=3000/\x.st.length<=x.toks.length/\(x.e=0∨x.e=4)/\(∀y∈x.st,-(x.i0:Int)<=y.2/\y.2 <=(x.i0:Int))/\Reach s ⟨0,[],[]⟩ ⟨x.i0,x.toks,x.st⟩)
        (fun x=>s.length-x.i) ⟨0,U5 s 0,[],[],[],[],0⟩ ⟨rfl,a6Y (Nat.zero_le _),Nat.zero_le _,Nat.zero_le _,.inl rfl,fun y hy=>(by cases hy),.refl _⟩ ?_
    intro⟨i0,i,toks,st,jq,jp,e⟩ ⟨hi0,hil,ht,hst0,he,hbd,hR⟩ ih
    simp only at hi0 hil ht hst0 he hbd hR ih
    show Ev _ _ _ _ _ [(0,.str s),(3,.ptr 0 0),(5,.rslice 1 0 st.length true),(6,.rslice 2 0 st.length true),(4,.slice (.tag 3) toks.length (a1m toks)),(7,.i (i:Nat))] [(0,.row [.i 0,.i 0]),(1,.grow 1 (qL st++jq)),(2,.grow 1 (pL st++jp)),(3,.tip e toks.length)] _
    have hii:i0<=i:=by rw[<-hi0];exact a6X
    refine q9 (eSG (oB 4 rfl ?_))
    refine J4 rfl (fun g28=>?_) (fun g28=>?_)
    · replace g28:i<s.length:=by simpa [ltN]using g28
      refine D5 ?_
      refine I7 ?_
      refine eSG (oB 3 rfl (q9 (eSG (oA 2 rfl ?_))))
      cases hbeg:(decide ((s.getD i 0).toNat=34)||J2 (s.getD i 0)||X5 (s.getD i 0)||decide (a0f s i 2 ≠ []))
      · refine G9 rfl rfl rfl rfl rfl (c28 s i g28 hs4 _ hbeg) rfl ?_
        refine oB 1 rfl ?_
        refine Q0 rfl rfl ?_
        refine eSG (oA 1 rfl ?_)
        refine oD ?_
        refine oB 2 rfl ?_
        exact u7 ⟨_,_,_,rfl,rfl,rfl,.err 10 i,Ends.V6 s hR ⟨_,.refl _,by rw[c0X hi0 g28 hbeg],fun z hz=>(by cases hz)⟩,rfl⟩
      · refine G9 rfl rfl rfl rfl rfl (c28 s i g28 hs4 _ hbeg) rfl ?_
        refine oB 1 rfl ?_
        refine U1 rfl rfl ?_
        refine D5 (q9 (eSG (oB 3 rfl ?_)))
        refine J4 rfl (fun g39=>?_) (fun g39=>?_)
        · replace g39:toks.length=3000:=by simp only[eqB,beq_iff_eq]at g39;omega
          refine eSG (oA 1 rfl ?_)
          refine oD ?_
          refine oB 2 rfl ?_
          exact u7 ⟨_,_,_,rfl,rfl,rfl,.err 2 i,Ends.V6 s hR ⟨_,.refl _,by rw[c1W hi0 g28 hbeg g39],fun z hz=>(by cases hz)⟩,rfl⟩
        · replace g39:toks.length<3000:=by simp only[eqB,beq_eq_false_iff_ne,ne_eq]at g39;omega
          refine D5 ?_
          refine a03 (f:=38) [42,43,44,45,46,47,48,49,50,51,52,53,54,55,56,57] (fun(x:Bool) fr=>(9,.bool x)::fr) (fun x=>x=closes (s.getD i 0).toNat st) (by kernel_rfl) (by repeat(first|exact a1f rfl|exact a0r rfl|refine a0s (by kernel_rfl) ?_|refine Y0 ?_|refine Y1 (by kernel_rfl) ?_|refine a0q (by kernel_rfl) ?_)) ?_ ?_
          · refine o7 (oA 3 rfl ?_)
            refine E9 rfl rfl rfl (fun g44=>?_) (fun g44=>?_)
            · refine oA 2 rfl ?_
              refine j5 rfl rfl (V5 (N9 (by omega)) rfl) ?_
              refine oA 3 rfl ?_
              refine E9 rfl rfl rfl (fun g50=>?_) (fun g50=>?_)
              · refine oA 2 rfl ?_
                obtain⟨q,p,st',rfl⟩:=b2S g44
                have hsl:List.length ((q,p)::st')=st'.length+1:=rfl
                refine j5 rfl rfl (sub1 (by omega) (by omega)) ?_
                refine j5 rfl rfl (V5 (N9 (by omega)) rfl) ?_
                refine V7 rfl rfl rfl (ldG (k:=st'.length) rfl (c1B q p st' jp)) ?_
                refine oB 3 rfl ?_
                refine⟨?_,?_,?_,rfl⟩
                rotate_left 2
                · (repeat(first|exact Off.refl|refine Off.right rfl ?_|refine Off.left rfl ?_|refine Off.over ?_|refine Off.Z9 rfl ?_))
                · exact(closesA (q:=q) (st:=st') g50).symm
              · refine oB 8 rfl ?_
                refine⟨?_,?_,?_,rfl⟩
                rotate_left 2
                · (repeat(first|exact Off.refl|refine Off.right rfl ?_|refine Off.left rfl ?_|refine Off.over ?_|refine Off.Z9 rfl ?_))
                · exact(closesB g50).symm
            · refine oB 14 rfl ?_
              refine⟨?_,?_,?_,rfl⟩
              rotate_left 2
              · (repeat(first|exact Off.refl|refine Off.right rfl ?_|refine Off.left rfl ?_|refine Off.over ?_|refine Off.Z9 rfl ?_))
              · exact(closesC g44).symm
          · intro x hx
            show Ev _ _ _ _ _ ((9,V.bool x)::_) _ _
            refine q9 ?_
            refine a03 (f:=38) [58,59,60,61,62,63] (fun(x:Bool) fr=>(64,.bool x)::fr) (fun y=>y =(x||decide ((s.getD i 0).toNat=34))) (by kernel_rfl) (by repeat(first|exact a1f rfl|exact a0r rfl|refine a0s (by kernel_rfl) ?_|refine Y0 ?_|refine Y1 (by kernel_rfl) ?_|refine a0q (by kernel_rfl) ?_)) ?_ ?_
            · refine o7 (oA 2 rfl ?_)
              refine E9 rfl rfl rfl (fun g59=>?_) (fun g59=>?_)
              · refine oB 5 rfl ?_
                refine⟨?_,?_,?_,rfl⟩
                rotate_left 2
                · (repeat(first|exact Off.refl|refine Off.right rfl ?_|refine Off.left rfl ?_|refine Off.over ?_|refine Off.Z9 rfl ?_))
                · rw[show x=true from g59];rfl
              · refine oA 2 rfl ?_
                refine j5 rfl rfl (V5 (N9 (by omega)) rfl) ?_
                refine oB 2 rfl ?_
                refine⟨?_,?_,?_,rfl⟩
                rotate_left 2
                · (repeat(first|exact Off.refl|refine Off.right rfl ?_|refine Off.left rfl ?_|refine Off.over ?_|refine Off.Z9 rfl ?_))
                · rw[show x=false from g59,Bool.false_or];simp only[eqB,Int.toNat_natCast];rw[Bool.eq_iff_iff];simp;omega
            · intro y hy
              show Ev _ _ _ _ _ ((64,V.bool y)::_) _ _
              refine J4 rfl (fun g64=>?_) (fun g64=>?_)
              · refine eSG (oB 6 rfl ?_)
                refine a03 (f:=38) [67,68,69,70,71,72,73,74] (fun(z:QS) fr=>(10,.i (z.q:Nat)) ::(11,.i (z.st.length:Nat)) ::(12,.i z.last) ::(13,.i z.more)::fr) (fun z=>stepM s ⟨i0,toks,st⟩=a1g toks z.st z.q i z.last z.more (part s z.q z.st.length (i+1) [])/\(z.st=st ∨ ∃y,st=y::z.st)) (by kernel_rfl) (by repeat(first|exact a1f rfl|exact a0r rfl|refine a0s (by kernel_rfl) ?_|refine Y0 ?_|refine Y1 (by kernel_rfl) ?_|refine a0q (by kernel_rfl) ?_)) ?_ ?_
                · refine eSG (oB 1 rfl ?_)
                  refine J4 rfl (fun g67=>?_) (fun g67=>?_)
                  · have hc:closes (s.getD i 0).toNat st=true:=by rw[<-hx];exact g67
                    obtain⟨q,p,st',rfl⟩:=b2S (c0Y hc)
                    have hsl:List.length ((q,p)::st')=st'.length+1:=rfl
                    obtain⟨rfl,hst⟩:=a3e (toks:=toks) hi0 g28 hc
                    refine o7 (oA 2 rfl ?_)
                    refine j5 rfl rfl (sub1 (by omega) (by omega)) ?_
                    refine j5 rfl rfl (V5 (N9 (by omega)) rfl) ?_
                    refine V7 rfl rfl rfl (ldG (k:=st'.length) rfl (qL_top q 0 st' jq)) ?_
                    refine oA 1 rfl ?_
                    refine j5 rfl rfl (sub1 (by omega) (by omega)) ?_
                    refine oB 4 rfl ?_
                    refine⟨⟨q,st',7,6⟩,?_,?_,rfl⟩
                    rotate_left 1
                    · (repeat(first|exact Off.refl|refine Off.right rfl ?_|refine Off.left rfl ?_|refine Off.over ?_|refine Off.Z9 rfl ?_))
                    · exact⟨by rw[hst,a8w (by simp only[leB,decide_eq_false_iff_not];omega)],.inr ⟨_,rfl⟩⟩
                  · have hq:(s.getD i 0).toNat = 34:=by
                      rw[g64,show x=false from g67,Bool.false_or]at hy
                      exact of_decide_eq_true hy.symm
                    have hst:=a4G (toks:=toks) hi0 g28 (by rw[<-hx];exact g67) hq
                    refine D5 ?_
                    refine⟨⟨i,st,4,5⟩,?_,?_,rfl⟩
                    rotate_left 1
                    · (repeat(first|exact Off.refl|refine Off.right rfl ?_|refine Off.left rfl ?_|refine Off.over ?_|refine Off.Z9 rfl ?_))
                    · exact⟨by rw[hst,a8w (by simp only[leB,decide_eq_false_iff_not];omega)],.inl rfl⟩
                · intro z ⟨hst,hz⟩
                  show Ev _ _ _ _ _ ((10,V.i (z.q:Nat)) ::(11,.i (z.st.length:Nat)) ::(12,.i z.last) ::(13,.i z.more)::_) _ _
                  have hzl:z.st.length<=st.length:=sub_len hz
                  have hsub:∀y∈z.st,y∈st:=sub_mem hz
                  obtain⟨jq',jp',hjq,hjp⟩:=sub_qp hz jq jp
                  rw[hjq,hjp]
                  refine eSG (oA 3 rfl ?_)
                  refine j5 rfl rfl (add1 (by omega)) ?_
                  refine oA 1 rfl ?_
                  have h29:=c29 s z.q (i+1) z.st.length (by omega) (by omega)
                  have hok:=b75 s z.q z.st.length (i+1) []
                  rcases hp:part s z.q z.st.length (i+1) []with⟨c,a⟩ |⟨t,en⟩ |⟨t,en⟩
                  · rw[hp]at h29 hok hst
                    refine G9 rfl rfl rfl rfl rfl (h29) rfl ?_
                    refine oB 7 rfl (q9 (eSG (oB 3 rfl ?_)))
                    refine Q0 rfl (neq_err hok) ?_
                    refine eSG (oB 3 rfl ?_)
                    exact u7 ⟨_,_,_,rfl,rfl,rfl,.err c a,Ends.V6 s hR ⟨_,.refl _,by rw[hst];rfl,fun z hz=>(by cases hz)⟩,rfl⟩
                  · rw[hp]at h29 hok hst
                    have hok1:i+1<en:=hok.1
                    have hok2:en<=s.length:=hok.2
                    refine G9 rfl rfl rfl rfl rfl (h29) rfl ?_
                    refine oB 7 rfl (q9 (eSG (oB 3 rfl ?_)))
                    refine U1 rfl (c1q) ?_
                    refine D5 (eSG (oB 2 rfl (eSG (oA 2 rfl ?_))))
                    refine j5 rfl rfl (V5 (a3w (a:=0) (Nat.zero_le _) hzl) rfl) ?_
                    refine oA 2 rfl ?_
                    refine j5 rfl rfl (V5 (a3w (a:=0) (Nat.zero_le _) hzl) rfl) ?_
                    refine oB 2 rfl (q9 (eSG (oB 2 rfl ?_)))
                    refine U1 rfl (rfl) ?_
                    refine D5 (eSG (oA 8 rfl ?_))
                    refine j5 rfl rfl (subN (by omega) (by omega)) ?_
                    refine oD ?_
                    refine oA 1 rfl ?_
                    refine a0U rfl rfl rfl rfl rfl rfl rfl rfl rfl rfl rfl (a6j (a0k rfl) rfl) rfl rfl he rfl (a2z toks).symm (by show(toks.length+1)*41<=_;omega) (a8a toks ⟨z.last,t,i,en-i⟩) (a3v toks ⟨z.last,t,i,en-i⟩).symm rfl ?_
                    refine oB 1 rfl (eSG (oA 3 rfl ?_))
                    refine G9 rfl rfl rfl rfl rfl (c27 s en (by omega) hs4) rfl ?_
                    refine oB 1 rfl ?_
                    refine a0g ?_
                    exact⟨_,_,rfl,ih ⟨en,U5 s (en),toks++[(⟨z.last,t,i,en-i⟩:Tok)],z.st,jq',jp',4⟩ (by show s.length-U5 s (en)<s.length-i;have:=a6X (s:=s) (i:=en);omega) ⟨rfl,a6Y (by omega),by show List.length (toks++[_])<=3000;rw[List.length_append];show toks.length+1<=3000;omega,by show List.length (z.st)<=List.length (toks++[_]);rw[List.length_append];show _<=toks.length+1;omega,.inr rfl,fun y hy=>⟨by have:=(hbd y (hsub y hy)).1;show -((en:Nat):Int)<=_;omega,by have:=(hbd y (hsub y hy)).2;show _ <=((en:Nat):Int);omega⟩,hR.trans s (Reach.one s (by rw[hst];rfl))⟩⟩
                  · rw[hp]at h29 hok hst
                    have hok1:i+1<en:=hok.1
                    have hok2:en<=s.length:=hok.2
                    refine G9 rfl rfl rfl rfl rfl (h29) rfl ?_
                    refine oB 7 rfl (q9 (eSG (oB 3 rfl ?_)))
                    refine U1 rfl (c1q) ?_
                    refine D5 (eSG (oB 2 rfl (eSG (oA 2 rfl ?_))))
                    refine j5 rfl rfl (V5 (a3w (a:=0) (Nat.zero_le _) hzl) rfl) ?_
                    refine oA 2 rfl ?_
                    refine j5 rfl rfl (V5 (a3w (a:=0) (Nat.zero_le _) hzl) rfl) ?_
                    refine oB 2 rfl (q9 (eSG (oB 2 rfl ?_)))
                    refine Q0 rfl (rfl) ?_
                    refine eSG (oB 2 rfl (o7 (oA 3 rfl ?_)))
                    refine b5w rfl rfl rfl rfl rfl rfl rfl rfl rfl rfl rfl (a6j (a0k rfl) rfl) rfl rfl rfl rfl rfl (by show z.st.length*1 <=(qL z.st++jq').length;rw[List.length_append,b8g];omega) (by show(z.st.length+1)*9<=_;omega) (show(qL z.st++jq').take (z.st.length*1)++[V.i (z.q:Int)]=qL ((z.q,0)::z.st)++[]from qL_push z.q z.st jq') rfl ?_
                    refine oA 2 rfl ?_
                    refine b5w rfl rfl rfl rfl rfl rfl rfl rfl rfl rfl rfl (a6j (a0k rfl) rfl) rfl rfl rfl rfl rfl (by show z.st.length*1 <=(pL z.st++jp').length;rw[List.length_append,a7G];omega) (by show(z.st.length+1)*9<=_;omega) (show(pL z.st++jp').take (z.st.length*1)++[V.i 0]=pL ((z.q,0)::z.st)++[]from pL_push z.q z.st jp') rfl ?_
                    refine oB 2 rfl (eSG (oA 8 rfl ?_))
                    refine j5 rfl rfl (subN (by omega) (by omega)) ?_
                    refine oD ?_
                    refine oA 1 rfl ?_
                    refine a0U rfl rfl rfl rfl rfl rfl rfl rfl rfl rfl rfl (a6j (a0k rfl) rfl) rfl rfl he rfl (a2z toks).symm (by show(toks.length+1)*41<=_;omega) (a8a toks ⟨z.more,t,i,en-i⟩) (a3v toks ⟨z.more,t,i,en-i⟩).symm rfl ?_
                    refine oB 1 rfl (eSG (oA 3 rfl ?_))
                    refine G9 rfl rfl rfl rfl rfl (c27 s en (by omega) hs4) rfl ?_
                    refine oB 1 rfl ?_
                    refine a0g ?_
                    exact⟨_,_,rfl,ih ⟨en,U5 s (en),toks++[(⟨z.more,t,i,en-i⟩:Tok)],(z.q,0)::z.st,[],[],4⟩ (by show s.length-U5 s (en)<s.length-i;have:=a6X (s:=s) (i:=en);omega) ⟨rfl,a6Y (by omega),by show List.length (toks++[_])<=3000;rw[List.length_append];show toks.length+1<=3000;omega,by show List.length ((z.q,0)::z.st)<=List.length (toks++[_]);rw[List.length_append];show _<=toks.length+1;show z.st.length+1<=_;omega,.inr rfl,fun y hy=>by
                      rcases List.mem_cons.1 hy with rfl|hy
                      · exact⟨by show -((en:Nat):Int)<=0;omega,by show 0 <=((en:Nat):Int);omega⟩
                      · exact⟨by have:=(hbd y (hsub y hy)).1;show -((en:Nat):Int)<=_;omega,by have:=(hbd y (hsub y hy)).2;show _ <=((en:Nat):Int);omega⟩,hR.trans s (Reach.one s (by rw[hst];rfl))⟩⟩
              · have hxf:x = false /\ (s.getD i 0).toNat ≠ 34:=by
                  rw[g64]at hy
                  have hy2:=hy.symm
                  simp only[Bool.or_eq_false_iff,decide_eq_false_iff_not]at hy2
                  exact hy2
                have hc:closes (s.getD i 0).toNat st=false:=by rw[<-hx];exact hxf.1
                refine D5 (eSG (oA 2 rfl ?_))
                have h30:=c30 s i g28 hs4
                rcases c4d (toks:=toks) hi0 g28 hc hxf.2 hbeg g39 with⟨c,hc0,hv,hst⟩ |⟨t,hv,htl,hte,hst⟩
                · rw[hv]at h30
                  refine G9 rfl rfl rfl rfl rfl (h30) rfl ?_
                  refine oB 7 rfl (q9 (eSG (oB 3 rfl ?_)))
                  refine Q0 rfl (neq_no hc0) ?_
                  refine eSG (oB 3 rfl ?_)
                  exact u7 ⟨_,_,_,rfl,rfl,rfl,.err c i,Ends.V6 s hR ⟨_,.refl _,by exact hst,fun z hz=>(by cases hz)⟩,rfl⟩
                · rw[hv]at h30
                  refine G9 rfl rfl rfl rfl rfl (h30) rfl ?_
                  refine oB 7 rfl (q9 (eSG (oB 3 rfl ?_)))
                  refine U1 rfl (c1q) ?_
                  refine D5 (q9 ?_)
                  refine a03 (f:=38) [131,132,133,134,135,136,137,138,139,140,141] (fun(x:Bool) fr=>(142,.bool x)::fr) (fun u=>u =(decide (0<st.length)&&decide (t.k=8)&&decide (t.t=[40]))) (by kernel_rfl) (by repeat(first|exact a1f rfl|exact a0r rfl|refine a0s (by kernel_rfl) ?_|refine Y0 ?_|refine Y1 (by kernel_rfl) ?_|refine a0q (by kernel_rfl) ?_)) ?_ ?_
                  · refine o7 (oA 3 rfl ?_)
                    refine E9 rfl rfl rfl (fun g133=>?_) (fun g133=>?_)
                    · refine oA 5 rfl ?_
                      refine E9 rfl rfl rfl (fun g138=>?_) (fun g138=>?_)
                      · refine oB 4 rfl ?_
                        refine⟨?_,?_,?_,rfl⟩
                        rotate_left 2
                        · (repeat(first|exact Off.refl|refine Off.right rfl ?_|refine Off.left rfl ?_|refine Off.over ?_|refine Off.Z9 rfl ?_))
                        · exact andA g133 g138
                      · refine oB 4 rfl ?_
                        refine⟨?_,?_,?_,rfl⟩
                        rotate_left 2
                        · (repeat(first|exact Off.refl|refine Off.right rfl ?_|refine Off.left rfl ?_|refine Off.over ?_|refine Off.Z9 rfl ?_))
                        · exact andB g138
                    · refine oB 9 rfl ?_
                      refine⟨?_,?_,?_,rfl⟩
                      rotate_left 2
                      · (repeat(first|exact Off.refl|refine Off.right rfl ?_|refine Off.left rfl ?_|refine Off.over ?_|refine Off.Z9 rfl ?_))
                      · exact andC g133
                  · intro u hu
                    show Ev _ _ _ _ _ ((142,V.bool u)::_) _ _
                    refine J4 rfl (fun g142=>?_) (fun g142=>?_)
                    · obtain ⟨hu1,hu2,hu3⟩:0 < st.length /\ t.k = 8 /\ t.t = [40]:=by
                        rw[g142]at hu
                        have hu':=hu.symm
                        simp only[Bool.and_eq_true,decide_eq_true_eq]at hu'
                        exact⟨hu'.1.1,hu'.1.2,hu'.2⟩
                      obtain⟨q,p,st',rfl⟩:=b2S (st:=st) (by simp only[ltB,decide_eq_true_eq];omega)
                      have hsl:List.length ((q,p)::st')=st'.length+1:=rfl
                      refine o7 (oA 2 rfl ?_)
                      refine j5 rfl rfl (sub1 (by omega) (by omega)) ?_
                      refine j5 rfl rfl (V5 (N9 (by omega)) rfl) ?_
                      refine V7 rfl rfl rfl (ldG (k:=st'.length) rfl (c1B q p st' jp)) ?_
                      have hbp:=hbd (q,p) (List.mem_cons_self ..)
                      simp only at hbp
                      refine j5 rfl rfl (b7l (by omega) (by omega)) ?_
                      refine j5 rfl rfl (V5 (N9 (by omega)) rfl) ?_
                      rw[show qL ((q,p)::st')=qL ((q,p+1)::st')by rw[a8R,a8R]]
                      refine b9F rfl rfl rfl rfl (stG2 (cs:=pL ((q,p)::st')++jp) (k:=st'.length) rfl (by rw[List.length_append,a7G];omega) (pL_set q p (p+1) st' jp) rfl) ?_
                      refine D9 (q9 ?_)
                      refine a03 (f:=38) [150,151,152,153,154,155,156,157,158,159,160] (fun(x:Bool) fr=>(161,.bool x)::fr) (fun w=>w =(decide (0<List.length ((q,p)::st'))&&decide (t.k=8)&&decide (t.t=[41]))) (by kernel_rfl) (by repeat(first|exact a1f rfl|exact a0r rfl|refine a0s (by kernel_rfl) ?_|refine Y0 ?_|refine Y1 (by kernel_rfl) ?_|refine a0q (by kernel_rfl) ?_)) ?_ ?_
                      · refine o7 (oA 3 rfl ?_)
                        refine E9 rfl rfl rfl (fun g152=>?_) (fun g152=>?_)
                        · refine oA 5 rfl ?_
                          refine E9 rfl rfl rfl (fun g157=>?_) (fun g157=>?_)
                          · refine oB 4 rfl ?_
                            refine⟨?_,?_,?_,rfl⟩
                            rotate_left 2
                            · (repeat(first|exact Off.refl|refine Off.right rfl ?_|refine Off.left rfl ?_|refine Off.over ?_|refine Off.Z9 rfl ?_))
                            · exact andA g152 g157
                          · refine oB 4 rfl ?_
                            refine⟨?_,?_,?_,rfl⟩
                            rotate_left 2
                            · (repeat(first|exact Off.refl|refine Off.right rfl ?_|refine Off.left rfl ?_|refine Off.over ?_|refine Off.Z9 rfl ?_))
                            · exact andB g157
                        · refine oB 9 rfl ?_
                          refine⟨?_,?_,?_,rfl⟩
                          rotate_left 2
                          · (repeat(first|exact Off.refl|refine Off.right rfl ?_|refine Off.left rfl ?_|refine Off.over ?_|refine Off.Z9 rfl ?_))
                          · exact andC g152
                      · intro w hw
                        show Ev _ _ _ _ _ ((161,V.bool w)::_) _ _
                        refine U1 rfl (by rw[hw,hu3];simp) ?_
                        refine D5 (eSG (oA 3 rfl ?_))
                        refine a0U rfl rfl rfl rfl rfl rfl rfl rfl rfl rfl rfl (a6j (a0k rfl) rfl) rfl rfl he rfl (a2z toks).symm (by show(toks.length+1)*41<=_;omega) (a8a toks t) (a3v toks t).symm rfl ?_
                        refine oB 1 rfl (o7 (oA 4 rfl ?_))
                        refine j5 rfl rfl (addN (by omega)) ?_
                        refine G9 rfl rfl rfl rfl rfl (c27 s (i+t.l) (by omega) hs4) rfl ?_
                        refine oB 1 rfl ?_
                        exact⟨_,_,rfl,ih ⟨i+t.l,U5 s (i+t.l),toks++[(t:Tok)],(q,p+1)::st',jq,jp,4⟩ (by show s.length-U5 s (i+t.l)<s.length-i;have:=a6X (s:=s) (i:=i+t.l);omega) ⟨rfl,a6Y (by omega),by show List.length (toks++[_])<=3000;rw[List.length_append];show toks.length+1<=3000;omega,by show List.length ((q,p+1)::st')<=List.length (toks++[_]);rw[List.length_append];show _<=toks.length+1;show st'.length+1<=_;omega,.inr rfl,fun y hy=>by
                          rcases List.mem_cons.1 hy with rfl|hy
                          · have:=hbd (q,p) (List.mem_cons_self ..);simp only at this;exact⟨by show -((i+t.l:Nat):Int)<=p+1;omega,by show p+1 <=((i+t.l:Nat):Int);omega⟩
                          · have:=hbd y (List.mem_cons_of_mem _ hy);exact⟨by show -((i+t.l:Nat):Int)<=_;omega,by show _ <=((i+t.l:Nat):Int);omega⟩,hR.trans s (Reach.one s (by rw[hst];simp only[hu2,hu3,decide_true];rfl))⟩⟩
                    · rw[g142]at hu
                      refine D5 (q9 ?_)
                      refine a03 (f:=38) [150,151,152,153,154,155,156,157,158,159,160] (fun(x:Bool) fr=>(161,.bool x)::fr) (fun w=>w =(decide (0<st.length)&&decide (t.k=8)&&decide (t.t=[41]))) (by kernel_rfl) (by repeat(first|exact a1f rfl|exact a0r rfl|refine a0s (by kernel_rfl) ?_|refine Y0 ?_|refine Y1 (by kernel_rfl) ?_|refine a0q (by kernel_rfl) ?_)) ?_ ?_
                      · refine o7 (oA 3 rfl ?_)
                        refine E9 rfl rfl rfl (fun g152=>?_) (fun g152=>?_)
                        · refine oA 5 rfl ?_
                          refine E9 rfl rfl rfl (fun g157=>?_) (fun g157=>?_)
                          · refine oB 4 rfl ?_
                            refine⟨?_,?_,?_,rfl⟩
                            rotate_left 2
                            · (repeat(first|exact Off.refl|refine Off.right rfl ?_|refine Off.left rfl ?_|refine Off.over ?_|refine Off.Z9 rfl ?_))
                            · exact andA g152 g157
                          · refine oB 4 rfl ?_
                            refine⟨?_,?_,?_,rfl⟩
                            rotate_left 2
                            · (repeat(first|exact Off.refl|refine Off.right rfl ?_|refine Off.left rfl ?_|refine Off.over ?_|refine Off.Z9 rfl ?_))
                            · exact andB g157
                        · refine oB 9 rfl ?_
                          refine⟨?_,?_,?_,rfl⟩
                          rotate_left 2
                          · (repeat(first|exact Off.refl|refine Off.right rfl ?_|refine Off.left rfl ?_|refine Off.over ?_|refine Off.Z9 rfl ?_))
                          · exact andC g152
                      · intro w hw
                        show Ev _ _ _ _ _ ((161,V.bool w)::_) _ _
                        refine J4 rfl (fun g161=>?_) (fun g161=>?_)
                        · obtain ⟨hw1,hw2,hw3⟩:0 < st.length /\ t.k = 8 /\ t.t = [41]:=by
                            rw[g161]at hw
                            have hw':=hw.symm
                            simp only[Bool.and_eq_true,decide_eq_true_eq]at hw'
                            exact⟨hw'.1.1,hw'.1.2,hw'.2⟩
                          obtain⟨q,p,st',rfl⟩:=b2S (st:=st) (by simp only[ltB,decide_eq_true_eq];omega)
                          have hsl:List.length ((q,p)::st')=st'.length+1:=rfl
                          refine o7 (oA 2 rfl ?_)
                          refine j5 rfl rfl (sub1 (by omega) (by omega)) ?_
                          refine j5 rfl rfl (V5 (N9 (by omega)) rfl) ?_
                          refine V7 rfl rfl rfl (ldG (k:=st'.length) rfl (c1B q p st' jp)) ?_
                          have hbp:=hbd (q,p) (List.mem_cons_self ..)
                          simp only at hbp
                          refine j5 rfl rfl (b7l (by omega) (by omega)) ?_
                          refine j5 rfl rfl (V5 (N9 (by omega)) rfl) ?_
                          rw[show qL ((q,p)::st')=qL ((q,p-1)::st')by rw[a8R,a8R]]
                          refine b9F rfl rfl rfl rfl (stG2 (cs:=pL ((q,p)::st')++jp) (k:=st'.length) rfl (by rw[List.length_append,a7G];omega) (pL_set q p (p-1) st' jp) rfl) ?_
                          refine D9 (eSG (oA 3 rfl ?_))
                          refine a0U rfl rfl rfl rfl rfl rfl rfl rfl rfl rfl rfl (a6j (a0k rfl) rfl) rfl rfl he rfl (a2z toks).symm (by show(toks.length+1)*41<=_;omega) (a8a toks t) (a3v toks t).symm rfl ?_
                          refine oB 1 rfl (o7 (oA 4 rfl ?_))
                          refine j5 rfl rfl (addN (by omega)) ?_
                          refine G9 rfl rfl rfl rfl rfl (c27 s (i+t.l) (by omega) hs4) rfl ?_
                          refine oB 1 rfl ?_
                          exact⟨_,_,rfl,ih ⟨i+t.l,U5 s (i+t.l),toks++[(t:Tok)],(q,p-1)::st',jq,jp,4⟩ (by show s.length-U5 s (i+t.l)<s.length-i;have:=a6X (s:=s) (i:=i+t.l);omega) ⟨rfl,a6Y (by omega),by show List.length (toks++[_])<=3000;rw[List.length_append];show toks.length+1<=3000;omega,by show List.length ((q,p-1)::st')<=List.length (toks++[_]);rw[List.length_append];show _<=toks.length+1;show st'.length+1<=_;omega,.inr rfl,fun y hy=>by
                            rcases List.mem_cons.1 hy with rfl|hy
                            · have:=hbd (q,p) (List.mem_cons_self ..);simp only at this;exact⟨by show -((i+t.l:Nat):Int)<=p-1;omega,by show p-1 <=((i+t.l:Nat):Int);omega⟩
                            · have:=hbd y (List.mem_cons_of_mem _ hy);exact⟨by show -((i+t.l:Nat):Int)<=_;omega,by show _ <=((i+t.l:Nat):Int);omega⟩,hR.trans s (Reach.one s (by rw[hst];simp only[hw2,hw3,decide_true];rfl))⟩⟩
                        · rw[g161]at hw
                          refine D5 (eSG (oA 3 rfl ?_))
                          refine a0U rfl rfl rfl rfl rfl rfl rfl rfl rfl rfl rfl (a6j (a0k rfl) rfl) rfl rfl he rfl (a2z toks).symm (by show(toks.length+1)*41<=_;omega) (a8a toks t) (a3v toks t).symm rfl ?_
                          refine oB 1 rfl (o7 (oA 4 rfl ?_))
                          refine j5 rfl rfl (addN (by omega)) ?_
                          refine G9 rfl rfl rfl rfl rfl (c27 s (i+t.l) (by omega) hs4) rfl ?_
                          refine oB 1 rfl ?_
                          exact⟨_,_,rfl,ih ⟨i+t.l,U5 s (i+t.l),toks++[(t:Tok)],st,jq,jp,4⟩ (by show s.length-U5 s (i+t.l)<s.length-i;have:=a6X (s:=s) (i:=i+t.l);omega) ⟨rfl,a6Y (by omega),by show List.length (toks++[_])<=3000;rw[List.length_append];show toks.length+1<=3000;omega,by show List.length (st)<=List.length (toks++[_]);rw[List.length_append];show _<=toks.length+1;omega,.inr rfl,fun y hy=>by have:=hbd y hy;exact⟨by show -((i+t.l:Nat):Int)<=_;omega,by show _ <=((i+t.l:Nat):Int);omega⟩,hR.trans s (Reach.one s (by rw[hst];exact congrArg (fun x=>MR.go ⟨i+t.l,toks++[t],x⟩) (bump_no (by rw[<-hu]) (by rw[<-hw]))))⟩⟩
    · replace g28:s.length<=i:=by simpa [ltN]using g28
      refine a0g ?_
      refine q9 (eSG (oB 3 rfl ?_))
      refine J4 rfl (fun g181=>?_) (fun g181=>?_)
      · obtain⟨q,p,st',rfl⟩:=b2S g181
        have hsl:List.length ((q,p)::st')=st'.length+1:=rfl
        refine eSG (oA 3 rfl ?_)
        refine j5 rfl rfl (sub1 (by omega) (by omega)) ?_
        refine j5 rfl rfl (V5 (N9 (by omega)) rfl) ?_
        refine V7 rfl rfl rfl (ldG (k:=st'.length) rfl (qL_top q p st' jq)) ?_
        refine oD ?_
        refine oB 2 rfl ?_
        exact u7 ⟨_,_,_,rfl,rfl,rfl,.err 11 q,Ends.V6 s hR ⟨_,.refl _,by rw[a4y hi0 g28],fun z hz=>(by cases hz)⟩,rfl⟩
      · refine D5 (eSG (oA 1 rfl ?_))
        refine oD ?_
        refine oB 2 rfl ?_
        obtain rfl:st=[]:=by
          cases st with
          | nil=>rfl
          | cons x st=>simp only[ltB,List.length_cons,decide_eq_false_iff_not]at g181;omega
        exact u7 ⟨_,_,_,rfl,rfl,rfl,.done toks,Ends.V6 s hR ⟨_,.refl _,a4x hi0 g28,fun z hz=>(by cases hz)⟩,rfl⟩
theorem c12 {s:List UInt8}(h0:s.length<=8000):∃r,Ends s ⟨0,[],[]⟩ r/\E env (.call 38 [.str s]) []=some (.ret (b0A r) []):=by
 obtain⟨v,H2,h1,rfl,r,h2,rfl⟩:=c12P h0
 exact⟨r,h2,h1⟩
theorem c12big {s:List UInt8}(h0:8000<s.length):E env (.call 38 [.str s]) []=some (.ret (b0A (.err 2 0)) []):=by
 refine M0 rfl Tryz.func38 rfl rfl ?_
 refine eSG (oB 2 rfl (q9 (eSG (oB 3 rfl ?_))))
 refine J4 rfl (fun g21=>?_) (fun g21=>?_)
 ·refine eSG ?_
  refine oD ?_
  refine oB 2 rfl ?_
  exact u7 ⟨_,rfl,rfl⟩
 ·exfalso;simp only[ltB,decide_eq_false_iff_not]at g21;omega
end Go.Proofs.YtmippldlhnajkaaGreatDoor.Sc
namespace Go.Proofs.YtmippldlhnajkaaGreatDoor.Sc
open Go Go.Vm
end Go.Proofs.YtmippldlhnajkaaGreatDoor.Sc
