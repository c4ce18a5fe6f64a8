/- Texts of ParsePrints, joined. -/
import Derived.Test.YtmippldlhnajkaaGreatDoorParsePrintsJ6
set_option maxRecDepth 100000
set_option maxHeartbeats 20000000
set_option linter.unusedSimpArgs false
set_option linter.unusedVariables false
set_option linter.unusedSectionVars false
namespace Go.Proofs.YtmippldlhnajkaaGreatDoor.Sc
open Go Go.Vm
theorem getD_lt' {s:List UInt8}{k:Nat}(h:(s.getD k 0).toNat≠0):k<s.length:=by
 rcases Nat.lt_or_ge k s.length with h1|h1
 ·exact h1
 ·rw[b5L h1]at h;exact absurd rfl h
def PRok (s:List UInt8)(i:Nat):PR->Prop | .err c _=>c=11∨c=12∨c=15 | .fin _ e=>i<e/\e<=s.length | .more _ e=>i<e/\e<=s.length
theorem PRok.mono {s:List UInt8}{i j:Nat}(h:i<=j):∀{r:PR},PRok s j r->PRok s i r
 | .err _ _,g=>g
 | .fin _ _,g=>⟨Nat.lt_of_le_of_lt h g.1,g.2⟩
 | .more _ _,g=>⟨Nat.lt_of_le_of_lt h g.1,g.2⟩
theorem c4S (s:List UInt8)(q ins:Nat):∀(f i:Nat) (text:List UInt8),PRok s i (a8J s q ins f i text)
 | 0,i,text=>.inl rfl
 | f+1,i,text=>by
  have ih:=c4S s q ins f;simp only[a8J];split
  ·exact .inl rfl
  ·rename_i h1;simp only[Bool.and_eq_true,decide_eq_true_eq]at h1;split
   ·exact⟨by omega,by omega⟩
   ·split
    ·exact(ih (i+1) _).mono (by omega)
    ·split
     ·exact(ih (i+2) _).mono (by omega)
     ·split
      ·exact(ih (i+2) _).mono (by omega)
      ·split
       ·exact(ih (i+2) _).mono (by omega)
       ·split
        ·rename_i h2;simp only[decide_eq_true_eq]at h2;split
         ·exact .inr (.inr rfl)
         ·have:=getD_lt' (s:=s) (k:=i+1) (by omega);exact⟨by omega,by omega⟩
        ·exact .inr (.inl rfl)
theorem c2L (s:List UInt8)(q ins i:Nat)(text:List UInt8):PRok s i (part s q ins i text):=c4S s q ins _ i text
section
variable {s:List UInt8} {i i0:Nat} {toks:List Tok} {st:List (Nat×Int)} (h0:a0C s i0=i) (hi:i<s.length)
include h0 hi
theorem c6T (hb:(s.getD i 0).toNat=41):a2a s i 2 ≠ []:=by
 have h1:leB ((i+1:Nat):Int) s.length=true:=by simp only[leB,decide_eq_true_eq];omega
 simp only[a2a,h1,Bool.true_and];split
 ·rename_i hx;simp only[Bool.and_eq_true,leB,decide_eq_true_eq]at hx;have hl:((s.take (i+2)).drop i).length=2:=by rw[List.length_drop,List.length_take];omega
  intro e;have:((s.take (i+2)).drop i).length=0:=by rw[show(s.take (i+2)).drop i=[]from e];rfl
  omega
 ·have hd:(s.take (i+(0+1))).drop i=[41]:=by
   have e1:(s.take (i+1)).drop i=[s.getD i 0]:=by
    rw[List.take_succ_eq_append_getElem hi,List.drop_append_of_le_length (by simp;omega)];simp[hi]
   rw[Nat.zero_add,e1,show s.getD i 0=41 from UInt8.toNat_inj.1 hb]
  rw[hd,show hasL b2u [41]=true by decide];simp
theorem c6g (hn:(decide ((s.getD i 0).toNat=34)||M0 (s.getD i 0)||a0x (s.getD i 0)||decide (a2a s i 2 ≠ []))=false):stepM s ⟨i0,toks,st⟩=.err 10 i:=by
 simp only[Bool.or_eq_false_iff,decide_eq_false_iff_not]at hn;obtain⟨⟨⟨h1,h2⟩,h3⟩,h4⟩:=hn;have h4:a2a s i 2=[]:=by cases h:a2a s i 2 with
  | nil=>rfl
  | cons a l=>rw[h]at h4;exact absurd (by simp) h4
 refine a7T h0 hi (c0H fun hb=>c6T h0 hi hb h4) h1 h2 h3 h4
theorem a4R {q:Nat}{p:Int}(hc:closes (s.getD i 0).toNat ((q,p)::st)=true):p=0/\stepM s ⟨i0,toks,(q,p)::st⟩=roomy toks i (a3y toks st q i 7 6 (part s q st.length (i+1) [])):=by
 have h:=hc;simp only[closes,Bool.and_eq_true,decide_eq_true_eq]at h;obtain⟨rfl,h2⟩:=h;exact⟨rfl,c5o h0 hi h2⟩
theorem c7g (hn:(decide ((s.getD i 0).toNat=34)||M0 (s.getD i 0)||a0x (s.getD i 0)||decide (a2a s i 2 ≠ []))=true)(ht:toks.length=3000):stepM s ⟨i0,toks,st⟩=.err 2 i:=by
 have hr:∀r,roomy toks i r=.err 2 i:=fun r=>c7b (by simp only[leB,decide_eq_true_eq];omega);cases hc:closes (s.getD i 0).toNat st with
 | true =>
  cases st with
  | nil=>cases hc
  | cons x st=>obtain⟨q,p⟩:=x;rw[(a4R h0 hi hc).2,hr]
 | false =>
  by_cases h1:(s.getD i 0).toNat=34
  ·rw[a7W h0 hi hc h1,hr]
  ·cases h2:M0 (s.getD i 0)with
   | true=>rw[a5H h0 hi hc h1 h2,hr]
   | false =>
    cases h3:a0x (s.getD i 0)with
    | true=>rw[a4S h0 hi hc h1 h2 h3,hr]
    | false =>
     rw[h2,h3,decide_eq_false h1]at hn;simp only[Bool.false_or,decide_eq_true_eq]at hn;rw[a6E h0 hi hc h1 h2 h3 rfl hn,hr]
theorem c9O (hc:closes (s.getD i 0).toNat st=false)(h1:(s.getD i 0).toNat≠34)(hn:(decide ((s.getD i 0).toNat=34)||M0 (s.getD i 0)||a0x (s.getD i 0)||decide (a2a s i 2 ≠ []))=true)(ht:toks.length<3000) :
  (∃c,c≠0/\b4E s i=b5U none c i/\stepM s ⟨i0,toks,st⟩=.err c i)∨(∃t:Tok,b4E s i=b5U (some t) 0 0/\0<t.l/\i+t.l<=s.length/\stepM s ⟨i0,toks,st⟩=.go ⟨i+t.l,toks++[t],match decide (t.k=8)with|true=>bump t.t st|false=>st⟩):=by
 have hr:∀r,roomy toks i r=r:=fun r=>b9S (by simp only[leB,decide_eq_false_iff_not];omega);have hi1:i<=s.length:=by omega
 cases h2:M0 (s.getD i 0)with
 | true =>
  rw[a5H h0 hi hc h1 h2,hr];have hg:=b0v hi h2;have hl:=b0w (p:=M0) hi1;cases hb:a3x ((s.take (Z7 M0 s i)).drop i) (s.getD (Z7 M0 s i) 0)with
  | true=>exact .inl ⟨13,by decide,by unfold b4E;simp only[h2,hb],rfl⟩
  | false=>exact .inr ⟨⟨3,(s.take (Z7 M0 s i)).drop i,i,Z7 M0 s i-i⟩,by unfold b4E;simp only[h2,hb],by show 0<Z7 M0 s i-i;omega,by show i+(Z7 M0 s i-i)<=_;omega,by show _=MR.go ⟨i+(Z7 M0 s i-i),_,_⟩;rw[show i+(Z7 M0 s i-i)=Z7 M0 s i by omega];rfl⟩
 | false =>
  cases h3:a0x (s.getD i 0)with
  | true =>
   rw[a4S h0 hi hc h1 h2 h3,hr];have hg:=b0v (p:=a0X) hi (by simp only[a0X,h3,Bool.true_or]);have hl:=b0w (p:=a0X) hi1;cases hb:ltB 24 ((s.take (Z7 a0X s i)).drop i).length with
   | true=>exact .inl ⟨14,by decide,by unfold b4E;simp only[h2,h3,hb],rfl⟩
   | false =>
    refine .inr ⟨⟨a9w ((s.take (Z7 a0X s i)).drop i),(s.take (Z7 a0X s i)).drop i,i,Z7 a0X s i-i⟩,by unfold b4E;simp only[h2,h3,hb],by show 0<Z7 a0X s i-i;omega,by show i+(Z7 a0X s i-i)<=_;omega,?_⟩;show _=MR.go ⟨i+(Z7 a0X s i-i),_,match decide (a9w _=8)with|true=>_|false=>_⟩;have hk:∀w,decide (a9w w=8)=false:=by
     intro w;unfold a9w;split
     ·simp
     ·split<;>simp
    rw[show i+(Z7 a0X s i-i)=Z7 a0X s i by omega,hk]
  | false =>
   rw[h2,h3,decide_eq_false h1]at hn;simp only[Bool.false_or,decide_eq_true_eq]at hn;rw[a6E h0 hi hc h1 h2 h3 rfl hn,hr];have hl:=b67 2 hi1;refine .inr ⟨⟨8,a2a s i 2,i,(a2a s i 2).length⟩,?_,List.length_pos_iff.2 hn,by show i+(a2a s i 2).length<=_;omega,rfl⟩;unfold b4E;simp only[h2,h3]
end
def qL (st:List (Nat×Int)):List V:=st.reverse.map fun x=>V.i (x.1:Int)
def pL (st:List (Nat×Int)):List V:=st.reverse.map fun x=>V.i x.2
theorem c2W (st:List (Nat×Int)):(qL st).length=st.length:=by simp[qL]
theorem b0G (st:List (Nat×Int)):(pL st).length=st.length:=by simp[pL]
theorem b2i (q:Nat)(p:Int)(st:List (Nat×Int)):qL ((q,p)::st)=qL st++[.i (q:Int)]:=by simp[qL]
theorem b5W (q:Nat)(p:Int)(st:List (Nat×Int)):pL ((q,p)::st)=pL st++[.i p]:=by simp[pL]
theorem qL_top (q:Nat)(p:Int)(st:List (Nat×Int))(j:List V):(qL ((q,p)::st)++j)[st.length]? = some (.i (q:Int)):=by
 rw[b2i,List.append_assoc,List.getElem?_append_right (by rw[c2W];omega),c2W];simp
theorem c6R (q:Nat)(p:Int)(st:List (Nat×Int))(j:List V):(pL ((q,p)::st)++j)[st.length]? = some (.i p):=by
 rw[b5W,List.append_assoc,List.getElem?_append_right (by rw[b0G];omega),b0G];simp
theorem pL_set (q:Nat)(p p':Int)(st:List (Nat×Int))(j:List V):O0 (pL ((q,p)::st)++j) st.length [.i p']=pL ((q,p')::st)++j:=by
 have h:(pL ((q,p)::st)++j)=pL st ++([V.i p]++j):=by rw[b5W,List.append_assoc]
 unfold O0;rw[h,b5W,List.take_append_of_le_length (by rw[b0G];omega),List.take_of_length_le (by rw[b0G];omega),List.drop_append,List.drop_of_length_le (by rw[b0G];simp)];rw[b0G];simp
theorem ldG {r k:Nat}{H:Hp}{cs:List V}{v:V}(h:hget r H=some (.grow 1 cs))(hv:cs[k]? = some v):a4D env.T 3 (.ptr r (0+(k:Int).toNat*1)) H=some v:=by
 show(match hget r H with|some (.row cs)=>_|some (.grow _ cs)=>cs[0+(k:Int).toNat*1]? | _=>none)=_;rw[h];simpa using hv
structure RS where
 i0:Nat
 i:Nat
 toks:List Tok
 st:List (Nat×Int)
 jq:List V
 jp:List V
 e:Nat
end Go.Proofs.YtmippldlhnajkaaGreatDoor.Sc
namespace Go.Proofs.YtmippldlhnajkaaGreatDoor.Sc
open Go Go.Vm
theorem b6j {st:List (Nat×Int)}(h:ltB 0 (st.length:Nat)=true):∃q p st',st =(q,p)::st':=by
 cases st with
 | nil=>simp[ltB]at h
 | cons x st=>exact⟨x.1,x.2,st,rfl⟩
theorem c6h {b:Nat}{st:List (Nat×Int)}(h:closes b st=true):ltB 0 (st.length:Nat)=true:=by
 cases st with
 | nil=>cases h
 | cons x st=>simp only[ltB,decide_eq_true_eq,List.length_cons];omega
theorem closesA {b q:Nat}{p:Int}{st:List (Nat×Int)}(h:eqB (b:Int) 41=true):closes b ((q,p)::st)=eqB p 0:=by
 simp only[eqB,beq_iff_eq]at h ⊢;obtain rfl:b=41:=by omega
 simp only[closes,decide_true,Bool.and_true];rw[Bool.eq_iff_iff];simp
theorem closesB {b:Nat}{st:List (Nat×Int)}(h:eqB (b:Int) 41=false):closes b st=false:=by
 simp only[eqB,beq_eq_false_iff_ne,ne_eq]at h;exact c0H (by omega)
theorem closesC {b:Nat}{st:List (Nat×Int)}(h:ltB 0 (st.length:Nat)=false):closes b st=false:=by
 cases st with
 | nil=>rfl
 | cons x st=>simp only[ltB,List.length_cons,decide_eq_false_iff_not]at h;omega
structure QS where
 q:Nat
 st:List (Nat×Int)
 last:Int
 more:Int
section
variable {z st:List (Nat×Int)} (h:z=st ∨ ∃y,st=y::z)
include h
theorem sub_len:z.length<=st.length:=by
 rcases h with rfl |⟨y,rfl⟩
 ·exact Nat.le_refl _
 ·simp
theorem sub_mem:∀y∈z,y∈st:=by
 rcases h with rfl |⟨y,rfl⟩
 ·exact fun y hy=>hy
 ·exact fun y hy=>List.mem_cons_of_mem _ hy
theorem sub_qp (jq jp:List V):∃jq' jp',qL st++jq=qL z++jq'/\pL st++jp=pL z++jp':=by
 rcases h with rfl |⟨⟨q,p⟩,rfl⟩
 ·exact⟨jq,jp,rfl,rfl⟩
 ·exact⟨_,_,by rw[b2i,List.append_assoc],by rw[b5W,List.append_assoc]⟩
end
theorem qL_push (q:Nat)(st:List (Nat×Int))(j:List V):(qL st++j).take (st.length*1)++[V.i (q:Int)]=qL ((q,0)::st)++[]:=by
 rw[Nat.mul_one,<-c2W st,List.take_left,b2i,List.append_nil]
theorem pL_push (q:Nat)(st:List (Nat×Int))(j:List V):(pL st++j).take (st.length*1)++[V.i 0]=pL ((q,0)::st)++[]:=by
 rw[Nat.mul_one,<-b0G st,List.take_left,b5W,List.append_nil]
theorem neq_err {s:List UInt8}{i a:Nat}{c:Int}(h:PRok s i (.err c a)):(!eqB c 0)=true:=by
 rcases h with rfl|rfl|rfl<;>simp[eqB]
theorem c6F:(!eqB 0 0)=false:=by simp[eqB]
theorem neq_no {c:Int}(h:c≠0):(!eqB c 0)=true:=by simp[eqB,h]
theorem b09 (l:List Tok)(t:Tok):l.length+1 =(l++[t]).length:=by simp
theorem andA {st:List (Nat×Int)}{t:Tok}{c:List UInt8}(h1:ltB 0 (st.length:Nat)=true)(h2:eqB t.k 8=true):eqS t.t c =(decide (0<st.length)&&decide (t.k=8)&&decide (t.t=c)):=by
 simp only[ltB,decide_eq_true_eq]at h1;simp only[eqB,beq_iff_eq]at h2;rw[decide_eq_true (show 0<st.length by omega),decide_eq_true h2];simp only[eqS,Bool.true_and];rw[Bool.eq_iff_iff];simp
theorem andB {st:List (Nat×Int)}{t:Tok}{c:List UInt8}(h2:eqB t.k 8=false):false =(decide (0<st.length)&&decide (t.k=8)&&decide (t.t=c)):=by
 simp only[eqB,beq_eq_false_iff_ne,ne_eq]at h2;rw[decide_eq_false h2];simp
theorem andC {st:List (Nat×Int)}{t:Tok}{c:List UInt8}(h1:ltB 0 (st.length:Nat)=false):false =(decide (0<st.length)&&decide (t.k=8)&&decide (t.t=c)):=by
 simp only[ltB,decide_eq_false_iff_not]at h1;rw[decide_eq_false (show ¬0<st.length by omega)];simp
theorem bump_no {st:List (Nat×Int)}{t:Tok}(hu:false =(decide (0<st.length)&&decide (t.k=8)&&decide (t.t=[40])))(hw:false =(decide (0<st.length)&&decide (t.k=8)&&decide (t.t=[41]))):(match decide (t.k=8)with|true=>bump t.t st|false=>st)=st:=by
 cases st with
 | nil=>cases decide (t.k=8)<;>rfl
 | cons x st =>
  cases h:decide (t.k=8)with
  | false=>rfl
  | true =>
   rw[h]at hu hw;simp only[List.length_cons,Nat.zero_lt_succ,decide_true,Bool.true_and]at hu hw;obtain⟨q,p⟩:=x;simp only[bump,<-hu,<-hw]
theorem stG {r k:Nat}{H:Hp}{cs:List V}{n:Int}(h:hget r H=some (.grow 1 cs))(hk:k+1<=cs.length):a5I env.T 3 (.ptr r (0+(k:Int).toNat*1)) (.i n) H=some (hset r (.grow 1 (O0 cs k [.i n])) H):=by
 have h1:leN (0+(k:Int).toNat*1+1) cs.length=true:=a8z (by simp;omega);show(match hget r H with|some (.row cs)=>_|some (.grow e cs)=>gd (leN (0+(k:Int).toNat*1+1) cs.length) (some (hset r (.grow e (O0 cs (0+(k:Int).toNat*1) [.i n])) H))|_=>none)=_;rw[h];simp only[h1,gd];congr 4;simp
theorem stG2 {r k:Nat}{H H1:Hp}{cs cs':List V}{n:Int}(h:hget r H=some (.grow 1 cs))(hk:k+1<=cs.length)(hc:O0 cs k [.i n]=cs')(hH:Z8 (some (hset r (.grow 1 cs') H))=some H1):Z8 (a5I env.T 3 (.ptr r (0+(k:Int).toNat*1)) (.i n) H)=some H1:=by
 rw[stG h hk,hc];exact hH
theorem c12P {s:List UInt8}(h0:s.length<=8000):∃v H2,E env (.call 38 [.str s]) []=some (.ret v H2)/\H2=[] /\ ∃r,Ends s ⟨0,[],[]⟩ r/\v=b6o r:=by
  have hs4:s.length<4611686018427387904:=by omega
  refine c8W rfl Tryz.func38 rfl rfl ?_;refine eSG (oB 2 rfl (F3 (eSG (oB 3 rfl ?_))));refine a0E rfl (fun g21=>?_) (fun g21=>?_)
  · exfalso;simp only[ltB,decide_eq_true_eq]at g21;omega
  · refine L9 (eSG (oB 1 rfl (eSG (oB 2 rfl (eSG (oA 1 rfl ?_))))))
    refine M8 rfl rfl rfl rfl rfl (c27 s 0 (Nat.zero_le _) hs4) rfl ?_;refine oB 1 rfl (F3 ?_);refine Y9 ?_;refine a6s rfl ?_;refine a9x (fun x:RS=>[(0,.str s),(3,.ptr 0 0),(5,.rslice 1 0 x.st.length true),(6,.rslice 2 0 x.st.length true),(4,.slice (.tag 3) x.toks.length (b1S x.toks)),(7,.i (x.i:Nat))]) (fun x=>[(0,.row [.i 0,.i 0]),(1,.grow 1 (qL x.st ++ x.jq)),(2,.grow 1 (pL x.st ++ x.jp)),(3,.tip x.e x.toks.length)])
        (fun x=>a0C s x.i0=x.i/\x.i<=s.length/\x.toks.length<=3000/\x.st.length<=x.toks.length/\(x.e=0∨x.e=4)/\(∀y∈x.st,-(x.i0:Int)<=y.2/\y.2 <=(x.i0:Int))/\Reach s ⟨0,[],[]⟩ ⟨x.i0,x.toks,x.st⟩)
        (fun x=>s.length-x.i) ⟨0,a0C s 0,[],[],[],[],0⟩ ⟨rfl,b1L (Nat.zero_le _),Nat.zero_le _,Nat.zero_le _,.inl rfl,fun y hy=>(by cases hy),.refl _⟩ ?_
    intro⟨i0,i,toks,st,jq,jp,e⟩ ⟨hi0,hil,ht,hst0,he,hbd,hR⟩ ih;simp only at hi0 hil ht hst0 he hbd hR ih;show Ev _ _ _ _ _ [(0,.str s),(3,.ptr 0 0),(5,.rslice 1 0 st.length true),(6,.rslice 2 0 st.length true),(4,.slice (.tag 3) toks.length (b1S toks)),(7,.i (i:Nat))] [(0,.row [.i 0,.i 0]),(1,.grow 1 (qL st++jq)),(2,.grow 1 (pL st++jp)),(3,.tip e toks.length)] _;have hii:i0<=i:=by rw[<-hi0];exact b1K
    refine F3 (eSG (oB 4 rfl ?_));refine a0E rfl (fun g28=>?_) (fun g28=>?_)
    · replace g28:i<s.length:=by simpa [ltN]using g28
      refine L9 ?_;refine Y9 ?_;refine eSG (oB 3 rfl (F3 (eSG (oA 2 rfl ?_))));cases hbeg:(decide ((s.getD i 0).toNat=34)||M0 (s.getD i 0)||a0x (s.getD i 0)||decide (a2a s i 2 ≠ []))
      · refine M8 rfl rfl rfl rfl rfl (c28 s i g28 hs4 _ hbeg) rfl ?_
        refine oB 1 rfl ?_;refine a4I rfl rfl ?_;refine eSG (oA 1 rfl ?_);refine oD ?_;refine oB 2 rfl ?_;exact O5 ⟨_,_,_,rfl,rfl,rfl,.err 10 i,Ends.b1d s hR ⟨_,.refl _,by rw[c6g hi0 g28 hbeg],fun z hz=>(by cases hz)⟩,rfl⟩
      · refine M8 rfl rfl rfl rfl rfl (c28 s i g28 hs4 _ hbeg) rfl ?_
        refine oB 1 rfl ?_;refine a3L rfl rfl ?_;refine L9 (F3 (eSG (oB 3 rfl ?_)));refine a0E rfl (fun g39=>?_) (fun g39=>?_)
        · replace g39:toks.length=3000:=by simp only[eqB,beq_iff_eq]at g39;omega
          refine eSG (oA 1 rfl ?_);refine oD ?_;refine oB 2 rfl ?_;exact O5 ⟨_,_,_,rfl,rfl,rfl,.err 2 i,Ends.b1d s hR ⟨_,.refl _,by rw[c7g hi0 g28 hbeg g39],fun z hz=>(by cases hz)⟩,rfl⟩
        · replace g39:toks.length<3000:=by simp only[eqB,beq_eq_false_iff_ne,ne_eq]at g39;omega
          refine L9 ?_;refine a2Q (f:=38) [42,43,44,45,46,47,48,49,50,51,52,53,54,55,56,57] (fun(x:Bool) fr=>(9,.bool x)::fr) (fun x=>x=closes (s.getD i 0).toNat st) (by kernel_rfl) (by repeat(first|exact a3a rfl|exact a1N rfl|refine a1O (by kernel_rfl) ?_|refine a0Q ?_|refine a0R (by kernel_rfl) ?_|refine a1M (by kernel_rfl) ?_)) ?_ ?_
          · refine p9 (oA 3 rfl ?_)
            refine N9 rfl rfl rfl (fun g44=>?_) (fun g44=>?_)
            · refine oA 2 rfl ?_
              refine o7 rfl rfl (a1o (a0r (by omega)) rfl) ?_;refine oA 3 rfl ?_;refine N9 rfl rfl rfl (fun g50=>?_) (fun g50=>?_)
              · refine oA 2 rfl ?_
                obtain⟨q,p,st',rfl⟩:=b6j g44;have hsl:List.length ((q,p)::st')=st'.length+1:=rfl;refine o7 rfl rfl (sub1 (by omega) (by omega)) ?_;refine o7 rfl rfl (a1o (a0r (by omega)) rfl) ?_;refine a0G rfl rfl rfl (ldG (k:=st'.length) rfl (c6R q p st' jp)) ?_;refine oB 3 rfl ?_;refine⟨?_,?_,?_,rfl⟩;rotate_left 2
                · (repeat(first|exact Off.refl|refine Off.right rfl ?_|refine Off.left rfl ?_|refine Off.over ?_|refine Off.a0Z rfl ?_))
                · exact(closesA (q:=q) (st:=st') g50).symm
              · refine oB 8 rfl ?_
                refine⟨?_,?_,?_,rfl⟩;rotate_left 2
                · (repeat(first|exact Off.refl|refine Off.right rfl ?_|refine Off.left rfl ?_|refine Off.over ?_|refine Off.a0Z rfl ?_))
                · exact(closesB g50).symm
            · refine oB 14 rfl ?_
              refine⟨?_,?_,?_,rfl⟩;rotate_left 2
              · (repeat(first|exact Off.refl|refine Off.right rfl ?_|refine Off.left rfl ?_|refine Off.over ?_|refine Off.a0Z rfl ?_))
              · exact(closesC g44).symm
          · intro x hx
            show Ev _ _ _ _ _ ((9,V.bool x)::_) _ _;refine F3 ?_;refine a2Q (f:=38) [58,59,60,61,62,63] (fun(x:Bool) fr=>(64,.bool x)::fr) (fun y=>y =(x||decide ((s.getD i 0).toNat=34))) (by kernel_rfl) (by repeat(first|exact a3a rfl|exact a1N rfl|refine a1O (by kernel_rfl) ?_|refine a0Q ?_|refine a0R (by kernel_rfl) ?_|refine a1M (by kernel_rfl) ?_)) ?_ ?_
            · refine p9 (oA 2 rfl ?_)
              refine N9 rfl rfl rfl (fun g59=>?_) (fun g59=>?_)
              · refine oB 5 rfl ?_
                refine⟨?_,?_,?_,rfl⟩;rotate_left 2
                · (repeat(first|exact Off.refl|refine Off.right rfl ?_|refine Off.left rfl ?_|refine Off.over ?_|refine Off.a0Z rfl ?_))
                · rw[show x=true from g59];rfl
              · refine oA 2 rfl ?_
                refine o7 rfl rfl (a1o (a0r (by omega)) rfl) ?_;refine oB 2 rfl ?_;refine⟨?_,?_,?_,rfl⟩;rotate_left 2
                · (repeat(first|exact Off.refl|refine Off.right rfl ?_|refine Off.left rfl ?_|refine Off.over ?_|refine Off.a0Z rfl ?_))
                · rw[show x=false from g59,Bool.false_or];simp only[eqB,Int.toNat_natCast];rw[Bool.eq_iff_iff];simp;omega
            · intro y hy
              show Ev _ _ _ _ _ ((64,V.bool y)::_) _ _;refine a0E rfl (fun g64=>?_) (fun g64=>?_)
              · refine eSG (oB 6 rfl ?_)
                refine a2Q (f:=38) [67,68,69,70,71,72,73,74] (fun(z:QS) fr=>(10,.i (z.q:Nat)) ::(11,.i (z.st.length:Nat)) ::(12,.i z.last) ::(13,.i z.more)::fr) (fun z=>stepM s ⟨i0,toks,st⟩=a3y toks z.st z.q i z.last z.more (part s z.q z.st.length (i+1) [])/\(z.st=st ∨ ∃y,st=y::z.st)) (by kernel_rfl) (by repeat(first|exact a3a rfl|exact a1N rfl|refine a1O (by kernel_rfl) ?_|refine a0Q ?_|refine a0R (by kernel_rfl) ?_|refine a1M (by kernel_rfl) ?_)) ?_ ?_
                · refine eSG (oB 1 rfl ?_)
                  refine a0E rfl (fun g67=>?_) (fun g67=>?_)
                  · have hc:closes (s.getD i 0).toNat st=true:=by rw[<-hx];exact g67
                    obtain⟨q,p,st',rfl⟩:=b6j (c6h hc);have hsl:List.length ((q,p)::st')=st'.length+1:=rfl;obtain⟨rfl,hst⟩:=a4R (toks:=toks) hi0 g28 hc;refine p9 (oA 2 rfl ?_);refine o7 rfl rfl (sub1 (by omega) (by omega)) ?_;refine o7 rfl rfl (a1o (a0r (by omega)) rfl) ?_;refine a0G rfl rfl rfl (ldG (k:=st'.length) rfl (qL_top q 0 st' jq)) ?_;refine oA 1 rfl ?_;refine o7 rfl rfl (sub1 (by omega) (by omega)) ?_;refine oB 4 rfl ?_;refine⟨⟨q,st',7,6⟩,?_,?_,rfl⟩;rotate_left 1
                    · (repeat(first|exact Off.refl|refine Off.right rfl ?_|refine Off.left rfl ?_|refine Off.over ?_|refine Off.a0Z rfl ?_))
                    · exact⟨by rw[hst,b9S (by simp only[leB,decide_eq_false_iff_not];omega)],.inr ⟨_,rfl⟩⟩
                  · have hq:(s.getD i 0).toNat = 34:=by
                      rw[g64,show x=false from g67,Bool.false_or]at hy;exact of_decide_eq_true hy.symm
                    have hst:=a7W (toks:=toks) hi0 g28 (by rw[<-hx];exact g67) hq;refine L9 ?_;refine⟨⟨i,st,4,5⟩,?_,?_,rfl⟩;rotate_left 1
                    · (repeat(first|exact Off.refl|refine Off.right rfl ?_|refine Off.left rfl ?_|refine Off.over ?_|refine Off.a0Z rfl ?_))
                    · exact⟨by rw[hst,b9S (by simp only[leB,decide_eq_false_iff_not];omega)],.inl rfl⟩
                · intro z ⟨hst,hz⟩
                  show Ev _ _ _ _ _ ((10,V.i (z.q:Nat)) ::(11,.i (z.st.length:Nat)) ::(12,.i z.last) ::(13,.i z.more)::_) _ _;have hzl:z.st.length<=st.length:=sub_len hz;have hsub:∀y∈z.st,y∈st:=sub_mem hz;obtain⟨jq',jp',hjq,hjp⟩:=sub_qp hz jq jp;rw[hjq,hjp];refine eSG (oA 3 rfl ?_);refine o7 rfl rfl (add1 (by omega)) ?_;refine oA 1 rfl ?_;have h29:=c29 s z.q (i+1) z.st.length (by omega) (by omega);have hok:=c2L s z.q z.st.length (i+1) [];rcases hp:part s z.q z.st.length (i+1) []with⟨c,a⟩ |⟨t,en⟩ |⟨t,en⟩
                  · rw[hp]at h29 hok hst
                    refine M8 rfl rfl rfl rfl rfl (h29) rfl ?_;refine oB 7 rfl (F3 (eSG (oB 3 rfl ?_)));refine a4I rfl (neq_err hok) ?_;refine eSG (oB 3 rfl ?_);exact O5 ⟨_,_,_,rfl,rfl,rfl,.err c a,Ends.b1d s hR ⟨_,.refl _,by rw[hst];rfl,fun z hz=>(by cases hz)⟩,rfl⟩
                  · rw[hp]at h29 hok hst
                    have hok1:i+1<en:=hok.1;have hok2:en<=s.length:=hok.2;refine M8 rfl rfl rfl rfl rfl (h29) rfl ?_;refine oB 7 rfl (F3 (eSG (oB 3 rfl ?_)));refine a3L rfl (c6F) ?_;refine L9 (eSG (oB 2 rfl (eSG (oA 2 rfl ?_))));refine o7 rfl rfl (a1o (a9r (a:=0) (Nat.zero_le _) hzl) rfl) ?_;refine oA 2 rfl ?_;refine o7 rfl rfl (a1o (a9r (a:=0) (Nat.zero_le _) hzl) rfl) ?_;refine oB 2 rfl (F3 (eSG (oB 2 rfl ?_)));refine a3L rfl (rfl) ?_;refine L9 (eSG (oA 8 rfl ?_));refine o7 rfl rfl (subN (by omega) (by omega)) ?_;refine oD ?_;refine oA 1 rfl ?_;refine a5M rfl rfl rfl rfl rfl rfl rfl rfl rfl rfl rfl (b2O (a2r rfl) rfl) rfl rfl he rfl (a9p toks).symm (by show(toks.length+1)*41<=_;omega) (b09 toks ⟨z.last,t,i,en-i⟩) (a9o toks ⟨z.last,t,i,en-i⟩).symm rfl ?_;refine oB 1 rfl (eSG (oA 3 rfl ?_));refine M8 rfl rfl rfl rfl rfl (c27 s en (by omega) hs4) rfl ?_;refine oB 1 rfl ?_;refine a4k ?_;exact⟨_,_,rfl,ih ⟨en,a0C s (en),toks++[(⟨z.last,t,i,en-i⟩:Tok)],z.st,jq',jp',4⟩ (by show s.length-a0C s (en)<s.length-i;have:=b1K (s:=s) (i:=en);omega) ⟨rfl,b1L (by omega),by show List.length (toks++[_])<=3000;rw[List.length_append];show toks.length+1<=3000;omega,by show List.length (z.st)<=List.length (toks++[_]);rw[List.length_append];show _<=toks.length+1;omega,.inr rfl,fun y hy=>⟨by have:=(hbd y (hsub y hy)).1;show -((en:Nat):Int)<=_;omega,by have:=(hbd y (hsub y hy)).2;show _ <=((en:Nat):Int);omega⟩,hR.trans s (Reach.one s (by rw[hst];rfl))⟩⟩
                  · rw[hp]at h29 hok hst
                    have hok1:i+1<en:=hok.1;have hok2:en<=s.length:=hok.2;refine M8 rfl rfl rfl rfl rfl (h29) rfl ?_;refine oB 7 rfl (F3 (eSG (oB 3 rfl ?_)));refine a3L rfl (c6F) ?_;refine L9 (eSG (oB 2 rfl (eSG (oA 2 rfl ?_))));refine o7 rfl rfl (a1o (a9r (a:=0) (Nat.zero_le _) hzl) rfl) ?_;refine oA 2 rfl ?_;refine o7 rfl rfl (a1o (a9r (a:=0) (Nat.zero_le _) hzl) rfl) ?_;refine oB 2 rfl (F3 (eSG (oB 2 rfl ?_)));refine a4I rfl (rfl) ?_;refine eSG (oB 2 rfl (p9 (oA 3 rfl ?_)));refine b9l rfl rfl rfl rfl rfl rfl rfl rfl rfl rfl rfl (b2O (a2r rfl) rfl) rfl rfl rfl rfl rfl (by show z.st.length*1 <=(qL z.st++jq').length;rw[List.length_append,c2W];omega) (by show(z.st.length+1)*9<=_;omega) (show(qL z.st++jq').take (z.st.length*1)++[V.i (z.q:Int)]=qL ((z.q,0)::z.st)++[]from qL_push z.q z.st jq') rfl ?_;refine oA 2 rfl ?_;refine b9l rfl rfl rfl rfl rfl rfl rfl rfl rfl rfl rfl (b2O (a2r rfl) rfl) rfl rfl rfl rfl rfl (by show z.st.length*1 <=(pL z.st++jp').length;rw[List.length_append,b0G];omega) (by show(z.st.length+1)*9<=_;omega) (show(pL z.st++jp').take (z.st.length*1)++[V.i 0]=pL ((z.q,0)::z.st)++[]from pL_push z.q z.st jp') rfl ?_;refine oB 2 rfl (eSG (oA 8 rfl ?_));refine o7 rfl rfl (subN (by omega) (by omega)) ?_;refine oD ?_;refine oA 1 rfl ?_;refine a5M rfl rfl rfl rfl rfl rfl rfl rfl rfl rfl rfl (b2O (a2r rfl) rfl) rfl rfl he rfl (a9p toks).symm (by show(toks.length+1)*41<=_;omega) (b09 toks ⟨z.more,t,i,en-i⟩) (a9o toks ⟨z.more,t,i,en-i⟩).symm rfl ?_;refine oB 1 rfl (eSG (oA 3 rfl ?_));refine M8 rfl rfl rfl rfl rfl (c27 s en (by omega) hs4) rfl ?_;refine oB 1 rfl ?_;refine a4k ?_;exact⟨_,_,rfl,ih ⟨en,a0C s (en),toks++[(⟨z.more,t,i,en-i⟩:Tok)],(z.q,0)::z.st,[],[],4⟩ (by show s.length-a0C s (en)<s.length-i;have:=b1K (s:=s) (i:=en);omega) ⟨rfl,b1L (by omega),by show List.length (toks++[_])<=3000;rw[List.length_append];show toks.length+1<=3000;omega,by show List.length ((z.q,0)::z.st)<=List.length (toks++[_]);rw[List.length_append];show _<=toks.length+1;show z.st.length+1<=_;omega,.inr rfl,fun y hy=>by
                      rcases List.mem_cons.1 hy with rfl|hy
                      · exact⟨by show -((en:Nat):Int)<=0;omega,by show 0 <=((en:Nat):Int);omega⟩
                      · exact⟨by have:=(hbd y (hsub y hy)).1;show -((en:Nat):Int)<=_;omega,by have:=(hbd y (hsub y hy)).2;show _ <=((en:Nat):Int);omega⟩,hR.trans s (Reach.one s (by rw[hst];rfl))⟩⟩
              · have hxf:x = false /\ (s.getD i 0).toNat ≠ 34:=by
                  rw[g64]at hy;have hy2:=hy.symm;simp only[Bool.or_eq_false_iff,decide_eq_false_iff_not]at hy2;exact hy2
                have hc:closes (s.getD i 0).toNat st=false:=by rw[<-hx];exact hxf.1
                refine L9 (eSG (oA 2 rfl ?_));have h30:=c30 s i g28 hs4;rcases c9O (toks:=toks) hi0 g28 hc hxf.2 hbeg g39 with⟨c,hc0,hv,hst⟩ |⟨t,hv,htl,hte,hst⟩
                · rw[hv]at h30
                  refine M8 rfl rfl rfl rfl rfl (h30) rfl ?_;refine oB 7 rfl (F3 (eSG (oB 3 rfl ?_)));refine a4I rfl (neq_no hc0) ?_;refine eSG (oB 3 rfl ?_);exact O5 ⟨_,_,_,rfl,rfl,rfl,.err c i,Ends.b1d s hR ⟨_,.refl _,by exact hst,fun z hz=>(by cases hz)⟩,rfl⟩
                · rw[hv]at h30
                  refine M8 rfl rfl rfl rfl rfl (h30) rfl ?_;refine oB 7 rfl (F3 (eSG (oB 3 rfl ?_)));refine a3L rfl (c6F) ?_;refine L9 (F3 ?_);refine a2Q (f:=38) [131,132,133,134,135,136,137,138,139,140,141] (fun(x:Bool) fr=>(142,.bool x)::fr) (fun u=>u =(decide (0<st.length)&&decide (t.k=8)&&decide (t.t=[40]))) (by kernel_rfl) (by repeat(first|exact a3a rfl|exact a1N rfl|refine a1O (by kernel_rfl) ?_|refine a0Q ?_|refine a0R (by kernel_rfl) ?_|refine a1M (by kernel_rfl) ?_)) ?_ ?_
                  · refine p9 (oA 3 rfl ?_)
                    refine N9 rfl rfl rfl (fun g133=>?_) (fun g133=>?_)
                    · refine oA 5 rfl ?_
                      refine N9 rfl rfl rfl (fun g138=>?_) (fun g138=>?_)
                      · refine oB 4 rfl ?_
                        refine⟨?_,?_,?_,rfl⟩;rotate_left 2
                        · (repeat(first|exact Off.refl|refine Off.right rfl ?_|refine Off.left rfl ?_|refine Off.over ?_|refine Off.a0Z rfl ?_))
                        · exact andA g133 g138
                      · refine oB 4 rfl ?_
                        refine⟨?_,?_,?_,rfl⟩;rotate_left 2
                        · (repeat(first|exact Off.refl|refine Off.right rfl ?_|refine Off.left rfl ?_|refine Off.over ?_|refine Off.a0Z rfl ?_))
                        · exact andB g138
                    · refine oB 9 rfl ?_
                      refine⟨?_,?_,?_,rfl⟩;rotate_left 2
                      · (repeat(first|exact Off.refl|refine Off.right rfl ?_|refine Off.left rfl ?_|refine Off.over ?_|refine Off.a0Z rfl ?_))
                      · exact andC g133
                  · intro u hu
                    show Ev _ _ _ _ _ ((142,V.bool u)::_) _ _;refine a0E rfl (fun g142=>?_) (fun g142=>?_)
                    · obtain ⟨hu1,hu2,hu3⟩:0 < st.length /\ t.k = 8 /\ t.t = [40]:=by
                        rw[g142]at hu;have hu':=hu.symm;simp only[Bool.and_eq_true,decide_eq_true_eq]at hu';exact⟨hu'.1.1,hu'.1.2,hu'.2⟩
                      obtain⟨q,p,st',rfl⟩:=b6j (st:=st) (by simp only[ltB,decide_eq_true_eq];omega);have hsl:List.length ((q,p)::st')=st'.length+1:=rfl;refine p9 (oA 2 rfl ?_);refine o7 rfl rfl (sub1 (by omega) (by omega)) ?_;refine o7 rfl rfl (a1o (a0r (by omega)) rfl) ?_;refine a0G rfl rfl rfl (ldG (k:=st'.length) rfl (c6R q p st' jp)) ?_;have hbp:=hbd (q,p) (List.mem_cons_self ..);simp only at hbp;refine o7 rfl rfl (wrapI (by omega) (by omega)) ?_;refine o7 rfl rfl (a1o (a0r (by omega)) rfl) ?_;rw[show qL ((q,p)::st')=qL ((q,p+1)::st')by rw[b2i,b2i]];refine c4H rfl rfl rfl rfl (stG2 (cs:=pL ((q,p)::st')++jp) (k:=st'.length) rfl (by rw[List.length_append,b0G];omega) (pL_set q p (p+1) st' jp) rfl) ?_;refine H9 (F3 ?_);refine a2Q (f:=38) [150,151,152,153,154,155,156,157,158,159,160] (fun(x:Bool) fr=>(161,.bool x)::fr) (fun w=>w =(decide (0<List.length ((q,p)::st'))&&decide (t.k=8)&&decide (t.t=[41]))) (by kernel_rfl) (by repeat(first|exact a3a rfl|exact a1N rfl|refine a1O (by kernel_rfl) ?_|refine a0Q ?_|refine a0R (by kernel_rfl) ?_|refine a1M (by kernel_rfl) ?_)) ?_ ?_
                      · refine p9 (oA 3 rfl ?_)
                        refine N9 rfl rfl rfl (fun g152=>?_) (fun g152=>?_)
                        · refine oA 5 rfl ?_
                          refine N9 rfl rfl rfl (fun g157=>?_) (fun g157=>?_)
                          · refine oB 4 rfl ?_
                            refine⟨?_,?_,?_,rfl⟩;rotate_left 2
                            · (repeat(first|exact Off.refl|refine Off.right rfl ?_|refine Off.left rfl ?_|refine Off.over ?_|refine Off.a0Z rfl ?_))
                            · exact andA g152 g157
                          · refine oB 4 rfl ?_
                            refine⟨?_,?_,?_,rfl⟩;rotate_left 2
                            · (repeat(first|exact Off.refl|refine Off.right rfl ?_|refine Off.left rfl ?_|refine Off.over ?_|refine Off.a0Z rfl ?_))
                            · exact andB g157
                        · refine oB 9 rfl ?_
                          refine⟨?_,?_,?_,rfl⟩;rotate_left 2
                          · (repeat(first|exact Off.refl|refine Off.right rfl ?_|refine Off.left rfl ?_|refine Off.over ?_|refine Off.a0Z rfl ?_))
                          · exact andC g152
                      · intro w hw
                        show Ev _ _ _ _ _ ((161,V.bool w)::_) _ _;refine a3L rfl (by rw[hw,hu3];simp) ?_;refine L9 (eSG (oA 3 rfl ?_));refine a5M rfl rfl rfl rfl rfl rfl rfl rfl rfl rfl rfl (b2O (a2r rfl) rfl) rfl rfl he rfl (a9p toks).symm (by show(toks.length+1)*41<=_;omega) (b09 toks t) (a9o toks t).symm rfl ?_;refine oB 1 rfl (p9 (oA 4 rfl ?_));refine o7 rfl rfl (addN (by omega)) ?_;refine M8 rfl rfl rfl rfl rfl (c27 s (i+t.l) (by omega) hs4) rfl ?_;refine oB 1 rfl ?_;exact⟨_,_,rfl,ih ⟨i+t.l,a0C s (i+t.l),toks++[(t:Tok)],(q,p+1)::st',jq,jp,4⟩ (by show s.length-a0C s (i+t.l)<s.length-i;have:=b1K (s:=s) (i:=i+t.l);omega) ⟨rfl,b1L (by omega),by show List.length (toks++[_])<=3000;rw[List.length_append];show toks.length+1<=3000;omega,by show List.length ((q,p+1)::st')<=List.length (toks++[_]);rw[List.length_append];show _<=toks.length+1;show st'.length+1<=_;omega,.inr rfl,fun y hy=>by
                          rcases List.mem_cons.1 hy with rfl|hy
                          · have:=hbd (q,p) (List.mem_cons_self ..);simp only at this;exact⟨by show -((i+t.l:Nat):Int)<=p+1;omega,by show p+1 <=((i+t.l:Nat):Int);omega⟩
                          · have:=hbd y (List.mem_cons_of_mem _ hy);exact⟨by show -((i+t.l:Nat):Int)<=_;omega,by show _ <=((i+t.l:Nat):Int);omega⟩,hR.trans s (Reach.one s (by rw[hst];simp only[hu2,hu3,decide_true];rfl))⟩⟩
                    · rw[g142]at hu
                      refine L9 (F3 ?_);refine a2Q (f:=38) [150,151,152,153,154,155,156,157,158,159,160] (fun(x:Bool) fr=>(161,.bool x)::fr) (fun w=>w =(decide (0<st.length)&&decide (t.k=8)&&decide (t.t=[41]))) (by kernel_rfl) (by repeat(first|exact a3a rfl|exact a1N rfl|refine a1O (by kernel_rfl) ?_|refine a0Q ?_|refine a0R (by kernel_rfl) ?_|refine a1M (by kernel_rfl) ?_)) ?_ ?_
                      · refine p9 (oA 3 rfl ?_)
                        refine N9 rfl rfl rfl (fun g152=>?_) (fun g152=>?_)
                        · refine oA 5 rfl ?_
                          refine N9 rfl rfl rfl (fun g157=>?_) (fun g157=>?_)
                          · refine oB 4 rfl ?_
                            refine⟨?_,?_,?_,rfl⟩;rotate_left 2
                            · (repeat(first|exact Off.refl|refine Off.right rfl ?_|refine Off.left rfl ?_|refine Off.over ?_|refine Off.a0Z rfl ?_))
                            · exact andA g152 g157
                          · refine oB 4 rfl ?_
                            refine⟨?_,?_,?_,rfl⟩;rotate_left 2
                            · (repeat(first|exact Off.refl|refine Off.right rfl ?_|refine Off.left rfl ?_|refine Off.over ?_|refine Off.a0Z rfl ?_))
                            · exact andB g157
                        · refine oB 9 rfl ?_
                          refine⟨?_,?_,?_,rfl⟩;rotate_left 2
                          · (repeat(first|exact Off.refl|refine Off.right rfl ?_|refine Off.left rfl ?_|refine Off.over ?_|refine Off.a0Z rfl ?_))
                          · exact andC g152
                      · intro w hw
                        show Ev _ _ _ _ _ ((161,V.bool w)::_) _ _;refine a0E rfl (fun g161=>?_) (fun g161=>?_)
                        · obtain ⟨hw1,hw2,hw3⟩:0 < st.length /\ t.k = 8 /\ t.t = [41]:=by
                            rw[g161]at hw;have hw':=hw.symm;simp only[Bool.and_eq_true,decide_eq_true_eq]at hw';exact⟨hw'.1.1,hw'.1.2,hw'.2⟩
                          obtain⟨q,p,st',rfl⟩:=b6j (st:=st) (by simp only[ltB,decide_eq_true_eq];omega);have hsl:List.length ((q,p)::st')=st'.length+1:=rfl;refine p9 (oA 2 rfl ?_);refine o7 rfl rfl (sub1 (by omega) (by omega)) ?_;refine o7 rfl rfl (a1o (a0r (by omega)) rfl) ?_;refine a0G rfl rfl rfl (ldG (k:=st'.length) rfl (c6R q p st' jp)) ?_;have hbp:=hbd (q,p) (List.mem_cons_self ..);simp only at hbp;refine o7 rfl rfl (wrapI (by omega) (by omega)) ?_;refine o7 rfl rfl (a1o (a0r (by omega)) rfl) ?_;rw[show qL ((q,p)::st')=qL ((q,p-1)::st')by rw[b2i,b2i]];refine c4H rfl rfl rfl rfl (stG2 (cs:=pL ((q,p)::st')++jp) (k:=st'.length) rfl (by rw[List.length_append,b0G];omega) (pL_set q p (p-1) st' jp) rfl) ?_;refine H9 (eSG (oA 3 rfl ?_));refine a5M rfl rfl rfl rfl rfl rfl rfl rfl rfl rfl rfl (b2O (a2r rfl) rfl) rfl rfl he rfl (a9p toks).symm (by show(toks.length+1)*41<=_;omega) (b09 toks t) (a9o toks t).symm rfl ?_;refine oB 1 rfl (p9 (oA 4 rfl ?_));refine o7 rfl rfl (addN (by omega)) ?_;refine M8 rfl rfl rfl rfl rfl (c27 s (i+t.l) (by omega) hs4) rfl ?_;refine oB 1 rfl ?_;exact⟨_,_,rfl,ih ⟨i+t.l,a0C s (i+t.l),toks++[(t:Tok)],(q,p-1)::st',jq,jp,4⟩ (by show s.length-a0C s (i+t.l)<s.length-i;have:=b1K (s:=s) (i:=i+t.l);omega) ⟨rfl,b1L (by omega),by show List.length (toks++[_])<=3000;rw[List.length_append];show toks.length+1<=3000;omega,by show List.length ((q,p-1)::st')<=List.length (toks++[_]);rw[List.length_append];show _<=toks.length+1;show st'.length+1<=_;omega,.inr rfl,fun y hy=>by
                            rcases List.mem_cons.1 hy with rfl|hy
                            · have:=hbd (q,p) (List.mem_cons_self ..);simp only at this;exact⟨by show -((i+t.l:Nat):Int)<=p-1;omega,by show p-1 <=((i+t.l:Nat):Int);omega⟩
                            · have:=hbd y (List.mem_cons_of_mem _ hy);exact⟨by show -((i+t.l:Nat):Int)<=_;omega,by show _ <=((i+t.l:Nat):Int);omega⟩,hR.trans s (Reach.one s (by rw[hst];simp only[hw2,hw3,decide_true];rfl))⟩⟩
                        · rw[g161]at hw
                          refine L9 (eSG (oA 3 rfl ?_));refine a5M rfl rfl rfl rfl rfl rfl rfl rfl rfl rfl rfl (b2O (a2r rfl) rfl) rfl rfl he rfl (a9p toks).symm (by show(toks.length+1)*41<=_;omega) (b09 toks t) (a9o toks t).symm rfl ?_;refine oB 1 rfl (p9 (oA 4 rfl ?_));refine o7 rfl rfl (addN (by omega)) ?_;refine M8 rfl rfl rfl rfl rfl (c27 s (i+t.l) (by omega) hs4) rfl ?_;refine oB 1 rfl ?_;exact⟨_,_,rfl,ih ⟨i+t.l,a0C s (i+t.l),toks++[(t:Tok)],st,jq,jp,4⟩ (by show s.length-a0C s (i+t.l)<s.length-i;have:=b1K (s:=s) (i:=i+t.l);omega) ⟨rfl,b1L (by omega),by show List.length (toks++[_])<=3000;rw[List.length_append];show toks.length+1<=3000;omega,by show List.length (st)<=List.length (toks++[_]);rw[List.length_append];show _<=toks.length+1;omega,.inr rfl,fun y hy=>by have:=hbd y hy;exact⟨by show -((i+t.l:Nat):Int)<=_;omega,by show _ <=((i+t.l:Nat):Int);omega⟩,hR.trans s (Reach.one s (by rw[hst];exact congrArg (fun x=>MR.go ⟨i+t.l,toks++[t],x⟩) (bump_no (by rw[<-hu]) (by rw[<-hw]))))⟩⟩
    · replace g28:s.length<=i:=by simpa [ltN]using g28
      refine a4k ?_;refine F3 (eSG (oB 3 rfl ?_));refine a0E rfl (fun g181=>?_) (fun g181=>?_)
      · obtain⟨q,p,st',rfl⟩:=b6j g181
        have hsl:List.length ((q,p)::st')=st'.length+1:=rfl;refine eSG (oA 3 rfl ?_);refine o7 rfl rfl (sub1 (by omega) (by omega)) ?_;refine o7 rfl rfl (a1o (a0r (by omega)) rfl) ?_;refine a0G rfl rfl rfl (ldG (k:=st'.length) rfl (qL_top q p st' jq)) ?_;refine oD ?_;refine oB 2 rfl ?_;exact O5 ⟨_,_,_,rfl,rfl,rfl,.err 11 q,Ends.b1d s hR ⟨_,.refl _,by rw[a7V hi0 g28],fun z hz=>(by cases hz)⟩,rfl⟩
      · refine L9 (eSG (oA 1 rfl ?_))
        refine oD ?_;refine oB 2 rfl ?_;obtain rfl:st=[]:=by
          cases st with
          | nil=>rfl
          | cons x st=>simp only[ltB,List.length_cons,decide_eq_false_iff_not]at g181;omega
        exact O5 ⟨_,_,_,rfl,rfl,rfl,.done toks,Ends.b1d s hR ⟨_,.refl _,a7U hi0 g28,fun z hz=>(by cases hz)⟩,rfl⟩
theorem c12 {s:List UInt8}(h0:s.length<=8000):∃r,Ends s ⟨0,[],[]⟩ r/\E env (.call 38 [.str s]) []=some (.ret (b6o r) []):=by
 obtain⟨v,H2,h1,rfl,r,h2,rfl⟩:=c12P h0;exact⟨r,h2,h1⟩
theorem c12big {s:List UInt8}(h0:8000<s.length):E env (.call 38 [.str s]) []=some (.ret (b6o (.err 2 0)) []):=by
 refine a1r rfl Tryz.func38 rfl rfl ?_;refine eSG (oB 2 rfl (F3 (eSG (oB 3 rfl ?_))));refine a0E rfl (fun g21=>?_) (fun g21=>?_)
 ·refine eSG ?_;refine oD ?_;refine oB 2 rfl ?_;exact O5 ⟨_,rfl,rfl⟩
 ·exfalso;simp only[ltB,decide_eq_false_iff_not]at g21;omega
end Go.Proofs.YtmippldlhnajkaaGreatDoor.Sc
namespace Go.Proofs.YtmippldlhnajkaaGreatDoor.Sc
open Go Go.Vm
end Go.Proofs.YtmippldlhnajkaaGreatDoor.Sc
