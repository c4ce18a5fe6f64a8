/- Texts of ParseTwice, joined. -/
import Derived.Test.YtjhfloacokgdiaaGreatDoorParseTwiceJ23
set_option maxRecDepth 100000
set_option maxHeartbeats 20000000
set_option linter.all false
namespace Go.Proofs.YtjhfloacokgdiaaGreatDoor.Sc
open Go Go.Vm Pr
variable {k:Int} {a:List (Int×List UInt8)} {st:List (Nat×Int)} {S S' S2 ps:List Int} {l toks:List Tok} {pre q r s tl u w x z:List UInt8} {y:MS} {e i ins j o:Nat} {b:UInt8}
theorem signK_eq (h:a2w s i 2=w)(hi:i<s.length):w =(s.take (i+w.length)).drop i:=by
 have h1:leB ((i+1:Nat):Int) s.length=true:=by simp only[leB,decide_eq_true_eq];omega
 simp only[a2w,h1,Bool.true_and]at h;split at h
 ·rename_i hx;simp only[Bool.and_eq_true,leB,decide_eq_true_eq]at hx;have hl:((s.take (i+2)).drop i).length=2:=by rw[List.length_drop,List.length_take];omega
  rw[<-h];show _ =(s.take (i+((s.take (i+2)).drop i).length)).drop i;rw[hl]
 ·split at h
  ·have hl:((s.take (i+1)).drop i).length=1:=by rw[List.length_drop,List.length_take];omega
   rw[<-h];show _ =(s.take (i+((s.take (i+1)).drop i).length)).drop i;rw[hl]
  ·subst h;simp
theorem bad_eq (w:List UInt8)(nx:UInt8):a4y w nx =((ltB 1 w.length&&eqB (w.getD 0 0).toNat 48) ||(ltB 19 w.length ||(eqB w.length 19 && !(ltS w b0d||eqS w b0d)))||a1b nx):=by
 unfold a4y;simp only[Bool.or_assoc]
def okB (b:UInt8):Bool:=decide (32<=b.toNat)||decide (b.toNat=10)||decide (b.toNat=9)
theorem getD_drop (q:List UInt8)(i k:Nat):q.getD (i+k) 0 =(q.drop i).getD k 0:=by
 rw[List.getD_eq_getElem?_getD,List.getD_eq_getElem?_getD,List.getElem?_drop]
theorem b7n (h:q.drop i=b::r):q.length=i+(r.length+1):=by
 have:=congrArg List.length h;rw[List.length_drop,List.length_cons]at this;omega
theorem a3d {a:List UInt8}(h:q.drop i=a++z){k:Nat}(hk:a.length=k):q.drop (i+k)=z:=by
 subst hk;rw[<-List.drop_drop,h,List.drop_left]
theorem c08 {n:Nat}(h:b.toNat=n):b=UInt8.ofNat n:=by rw[<-h];simp
theorem a3V {q:List UInt8}{o ins:Nat}:∀(r z:List UInt8) (i:Nat) (text:List UInt8),q.drop i=Rp.esc r++z->r.all okB=true->part q o ins i text=part q o ins (i+(Rp.esc r).length) (text++r)
 | [],z,i,text,hd,_=>by simp[Rp.esc]
 | b::r,z,i,text,hd,hok=>by
  rw[List.all_cons,Bool.and_eq_true]at hok;rw[Rp.a4E]at hd;have hlen:i+((Rp.a7s b).length+(Rp.esc r).length+z.length)<=q.length∨q.length<i:=by
   have:=congrArg List.length hd;rw[List.length_drop]at this;simp only[List.length_append]at this;omega
  have h0:=getD_drop q i 0;have h1:=getD_drop q i 1;rw[hd]at h0 h1;have hl1:=Rp.b4y b;have hlen:i+((Rp.a7s b).length+(Rp.esc r).length+z.length)<=q.length:=by
   rcases hlen with h|h
   ·exact h
   ·rw[List.drop_eq_nil_of_le (by omega)]at hd;have:=congrArg List.length hd;simp only[List.length_append,List.length_nil]at this;omega
  have fin:∀k,(Rp.a7s b).length=k->q.drop (i+k)=Rp.esc r++z:=fun k hk=>a3d (by rw[hd,List.append_assoc]) hk;by_cases c1:b=10
  ·subst c1;have e:Rp.a7s 10=[92,110]:=rfl;rw[e]at h0 h1 hlen;simp only[List.length_cons,List.length_nil]at hlen;rw[part_n (by omega) (by rw[show q.getD i 0=92 from h0];decide) (by rw[show q.getD i 0=92 from h0];rfl) (by rw[show q.getD (i+1) 0=110 from h1];rfl),a3V r z (i+2) _ (fin 2 rfl) hok.2];rw[Rp.a4E,e];simp;congr 1;omega
  by_cases c2:b=9
  ·subst c2;have e:Rp.a7s 9=[92,116]:=rfl;rw[e]at h0 h1 hlen;simp only[List.length_cons,List.length_nil]at hlen;rw[part_t (by omega) (by rw[show q.getD i 0=92 from h0];decide) (by rw[show q.getD i 0=92 from h0];rfl) (by rw[show q.getD (i+1) 0=116 from h1];rfl),a3V r z (i+2) _ (fin 2 rfl) hok.2];rw[Rp.a4E,e];simp;congr 1;omega
  by_cases c3:b=92
  ·subst c3;have e:Rp.a7s 92=[92,92]:=rfl;rw[e]at h0 h1 hlen;simp only[List.length_cons,List.length_nil]at hlen;rw[b3m (by omega) (by rw[show q.getD i 0=92 from h0];decide) (by rw[show q.getD i 0=92 from h0];rfl) (.inl (by rw[show q.getD (i+1) 0=92 from h1];rfl)),a3V r z (i+2) _ (fin 2 rfl) hok.2,show q.getD (i+1) 0=92 from h1];rw[Rp.a4E,e];simp;congr 1;omega
  by_cases c4:b=34
  ·subst c4;have e:Rp.a7s 34=[92,34]:=rfl;rw[e]at h0 h1 hlen;simp only[List.length_cons,List.length_nil]at hlen;rw[b3m (by omega) (by rw[show q.getD i 0=92 from h0];decide) (by rw[show q.getD i 0=92 from h0];rfl) (.inr (by rw[show q.getD (i+1) 0=34 from h1];rfl)),a3V r z (i+2) _ (fin 2 rfl) hok.2,show q.getD (i+1) 0=34 from h1];rw[Rp.a4E,e];simp;congr 1;omega
  have e:Rp.a7s b=[b]:=by simp only[Rp.a7s,if_neg c1,if_neg c2,if_neg c3,if_neg c4]
  rw[e]at h0 h1 hlen;simp only[List.length_cons,List.length_nil]at hlen;have hb:32<=b.toNat:=by
   have:=hok.1;simp only[okB,Bool.or_eq_true,decide_eq_true_eq]at this;rcases this with(h|h)|h
   ·exact h
   ·exact absurd (c08 h) c1
   ·exact absurd (c08 h) c2
  have h0:q.getD i 0=b:=h0;rw[b9x (by omega) (by rw[h0];exact hb) (by rw[h0];intro h;exact c4 (c08 (n:=34) h)) (by rw[h0];intro h;exact c3 (c08 (n:=92) h)),a3V r z (i+1) _ (fin 1 (by rw[e];rfl)) hok.2,h0];rw[Rp.a4E,e];simp;congr 1;omega
theorem b9z {text:List UInt8}(hd:q.drop i=Rp.esc r ++(34::z))(hok:r.all okB=true):part q o ins i text=.fin (text++r) (i+(Rp.esc r).length+1):=by
 have h2:q.drop (i+(Rp.esc r).length)=34::z:=a3d hd rfl;have h0:q.getD (i+(Rp.esc r).length) 0=34:=by have:=getD_drop q (i+(Rp.esc r).length) 0;rw[h2]at this;exact this
 have hl:=b7n h2;rw[a3V r _ i text hd hok,b7N (by omega) (by rw[h0];decide) (by rw[h0];rfl)]
theorem b7O {text:List UInt8}(hd:q.drop i=Rp.esc r ++(92::40::z))(hok:r.all okB=true)(hi:ins<3):part q o ins i text=.more (text++r) (i+(Rp.esc r).length+2):=by
 have h2:q.drop (i+(Rp.esc r).length)=92::40::z:=a3d hd rfl;have h0:q.getD (i+(Rp.esc r).length) 0=92:=by have:=getD_drop q (i+(Rp.esc r).length) 0;rw[h2]at this;exact this
 have h1:q.getD (i+(Rp.esc r).length+1) 0=40:=by have:=getD_drop q (i+(Rp.esc r).length) 1;rw[h2]at this;exact this
 have hl:=b7n h2;rw[a3V r _ i text hd hok,b5p (by omega) (by rw[h0];decide) (by rw[h0];rfl) (by rw[h1];rfl) (by omega)]
def PT (ins:Nat)(text:List UInt8):PR->Prop | .err _ _=>True | .fin T _=>∃r,T=text++r/\r.all okB=true | .more T _=>ins<3 /\ ∃r,T=text++r/\r.all okB=true
theorem PT.snoc {text:List UInt8}{p:PR}(hb:okB b=true)(h:PT ins (text++[b]) p):PT ins text p:=by
 have aux:∀T,(∃r,T=text++[b]++r/\r.all okB=true) -> ∃r,T=text++r/\r.all okB=true:=by
  rintro T ⟨r,h1,h2⟩;exact⟨b::r,by rw[h1];simp,by rw[List.all_cons,hb,h2];rfl⟩
 cases p with
 | err c a=>trivial
 | fin T e=>exact aux T h
 | more T e=>exact⟨h.1,aux T h.2⟩
theorem okB_ge (h:32<=b.toNat):okB b=true:=by simp only[okB,decide_eq_true h,Bool.true_or]
theorem b7L (q:List UInt8)(o ins:Nat):∀(f i:Nat) (text:List UInt8),PT ins text (a7a q o ins f i text)
 | 0,i,text=>trivial
 | f+1,i,text=>by
  have ih:=b7L q o ins f;simp only[a7a];split
  ·trivial
  ·rename_i h1;simp only[Bool.and_eq_true,decide_eq_true_eq]at h1;split
   ·exact⟨[],by simp,rfl⟩
   ·split
    ·exact PT.snoc (okB_ge h1.2) (ih _ _)
    ·split
     ·exact PT.snoc (by decide) (ih _ _)
     ·split
      ·exact PT.snoc (by decide) (ih _ _)
      ·split
       ·rename_i h5;simp only[Bool.or_eq_true,decide_eq_true_eq]at h5;exact PT.snoc (okB_ge (by omega)) (ih _ _)
       ·split
        ·split
         ·trivial
         ·rename_i h7;simp only[decide_eq_false_iff_not]at h7;exact⟨by omega,[],by simp,rfl⟩
        ·trivial
theorem b9A (q:List UInt8)(o ins i:Nat)(text:List UInt8):PT ins text (part q o ins i text):=b7L q o ins _ i text
def spK (k:Int)(x:List UInt8):List UInt8 :=if k=4 then 34 ::(Rp.esc x++[34])else if k=5 then 34 ::(Rp.esc x++[92,40])else if k=6 then 41 ::(Rp.esc x++[92,40])else if k=7 then 41 ::(Rp.esc x++[34])else x
def b6S (b:Nat):List Int->Bool | []=>false|p::_=>decide (p=0)&&decide (b=41)
theorem c1J (b:Nat):∀st:List (Nat×Int),closes b st=b6S b (st.map Prod.snd)
 | []=>rfl
 |(q,p)::st=>rfl
def b5E (w:List UInt8):List Int->List Int
 | []=>[]
 | p::r=>match decide (w=[40])with
  | true=>(p+1)::r
  | false=>match decide (w=[41])with
   | true=>(p-1)::r
   | false=>p::r
theorem c3G (w:List UInt8):∀st:List (Nat×Int),(bump w st).map Prod.snd=b5E w (st.map Prod.snd)
 | []=>rfl
 |(q,p)::st=>by
  simp only[bump,List.map_cons,b5E];cases decide (w=[40])with
  | true=>rfl
  | false=>cases decide (w=[41])<;>rfl
inductive TS:List Int->Int->List UInt8->List Int->Prop
 | tail (x:List UInt8) (st:List Int) (h:x.all okB=true):TS (0::st) 7 x st
 | mid (x:List UInt8) (st:List Int) (h:x.all okB=true) (h2:st.length<3):TS (0::st) 6 x (0::st)
 | text (x:List UInt8) (st:List Int) (h:x.all okB=true):TS st 4 x st
 | head (x:List UInt8) (st:List Int) (h:x.all okB=true) (h2:st.length<3):TS st 5 x (0::st)
 | int (w:List UInt8) (st:List Int) (h:w ≠ []) (h1:w.all U5=true) (h2:∀c,a1b c=false->a4y w c=false):TS st 3 w st
 | name (w:List UInt8) (st:List Int) (h:w ≠ []) (h0:a1b (w.headD 0)=true) (h1:w.all a2J=true) (h2:ltB 24 (w.length:Nat)=false):TS st (a4F w) w st
 | sign (w:List UInt8) (st:List Int) (h:a9g a1j w=true) (h1:b6S (w.headD 0).toNat st=false):TS st 8 w (b5E w st)
theorem b71 (p:UInt8->Bool)(s:List UInt8)(i:Nat):(s.take (a1c p s i)).drop i =(s.drop i).takeWhile p:=by
 rw[List.drop_take];have h:a1c p s i-i =((s.drop i).takeWhile p).length:=by unfold a1c;omega
 rw[h];exact(List.prefix_iff_eq_take.1 (List.takeWhile_prefix p)).symm
theorem c5Y {q:Nat}{a b:Int}{r:PR}(h:a2k toks st q j a b r=.go y) :
  (∃T e,r=.fin T e/\y =⟨e,toks++[⟨a,T,j,e-j⟩],st⟩)∨(∃T e,r=.more T e/\y =⟨e,toks++[⟨b,T,j,e-j⟩],(q,0)::st⟩):=by
 cases r with
 | err c a=>cases h
 | fin T e=>cases h;exact .inl ⟨_,_,rfl,rfl⟩
 | more T e=>cases h;exact .inr ⟨_,_,rfl,rfl⟩
theorem c7J (h:a2w s i 2=w)(hw:w ≠ [])(hi:i<s.length):a9g a1j w=true/\w.headD 0=s.getD i 0:=by
 refine⟨?_,?_⟩
 ·simp only[a2w]at h;split at h
  ·rename_i hx;simp only[Bool.and_eq_true]at hx;rw[<-h];exact hx.2
  ·split at h
   ·rename_i hx;simp only[Bool.and_eq_true]at hx;rw[<-h];exact hx.2
   ·exact absurd h.symm hw
 ·have e:=signK_eq h hi;rw[List.drop_take,a3y hi]at e;cases w with
  | nil=>exact absurd rfl hw
  | cons b w =>
   rw[show i+(b::w).length-i=w.length+1 by simp]at e;rw[List.take_succ_cons]at e;exact(List.cons.inj e).1
theorem b5x {x:MS}(h:stepM s x=.go y):∃t:Tok,y.toks=x.toks++[t]/\x.toks.length<3000/\TS (x.st.map Prod.snd) t.k t.t (y.st.map Prod.snd):=by
 obtain⟨i0,toks,st⟩:=x;obtain⟨i,h0⟩:∃i,a0W s i0=i:=⟨_,rfl⟩
 rcases Nat.lt_or_ge i s.length with hi|hi
 ·cases hc:closes (s.getD i 0).toNat st with
  | true =>
   cases st with
   | nil=>cases hc
   | cons z st =>
    obtain⟨q,p⟩:=z;obtain⟨rfl,e⟩:=a2F (toks:=toks) h0 hi hc;rw[e]at h;obtain⟨hr,h⟩:=a1B h;have hp:=b9A s q st.length (i+1) [];rcases c5Y h with⟨T,e,h1,rfl⟩ |⟨T,e,h1,rfl⟩
    ·rw[h1]at hp;obtain⟨r,h2,h3⟩:=hp;rw[List.nil_append]at h2;subst h2;exact⟨_,rfl,hr,.tail _ _ h3⟩
    ·rw[h1]at hp;obtain⟨h4,r,h2,h3⟩:=hp;rw[List.nil_append]at h2;subst h2;exact⟨_,rfl,hr,.mid _ _ h3 (by rw[List.length_map];exact h4)⟩
  | false =>
   by_cases h1:(s.getD i 0).toNat=34
   ·rw[a4s h0 hi hc h1]at h;obtain⟨hr,h⟩:=a1B h;have hp:=b9A s i st.length (i+1) [];rcases c5Y h with⟨T,e,h1,rfl⟩ |⟨T,e,h1,rfl⟩
    ·rw[h1]at hp;obtain⟨r,h2,h3⟩:=hp;rw[List.nil_append]at h2;subst h2;exact⟨_,rfl,hr,.text _ _ h3⟩
    ·rw[h1]at hp;obtain⟨h4,r,h2,h3⟩:=hp;rw[List.nil_append]at h2;subst h2;exact⟨_,rfl,hr,.head _ _ h3 (by rw[List.length_map];exact h4)⟩
   ·cases h2:U5 (s.getD i 0)with
    | true =>
     rw[a3v h0 hi hc h1 h2,b71]at h;obtain⟨hr,h⟩:=a1B h;split at h
     ·cases h
     ·rename_i hb;cases h;refine⟨_,rfl,hr,.int _ _ ?_ List.all_takeWhile ?_⟩
      ·rw[a3y hi,List.takeWhile_cons,h2];simp
      ·intro c hc;rw[bad_eq]at hb ⊢;rw[Bool.or_eq_false_iff]at hb ⊢;exact⟨hb.1,hc⟩
    | false =>
     cases h3:a1b (s.getD i 0)with
     | true =>
      rw[a2G h0 hi hc h1 h2 h3,b71]at h;obtain⟨hr,h⟩:=a1B h;split at h
      ·cases h
      ·rename_i hb;cases h;have hn:a2J (s.getD i 0)=true:=by simp only[a2J,h3,Bool.true_or]
       refine⟨_,rfl,hr,.name _ _ ?_ ?_ List.all_takeWhile hb⟩
       ·rw[a3y hi,List.takeWhile_cons,hn];simp
       ·rw[a3y hi,List.takeWhile_cons,hn];exact h3
     | false =>
      cases hw:a2w s i 2 with
      | nil=>rw[a5P h0 hi hc h1 h2 h3 hw]at h;cases h
      | cons b w =>
       rw[a2p h0 hi hc h1 h2 h3 hw (by simp)]at h;obtain⟨hr,h⟩:=a1B h;cases h;obtain⟨k1,k2⟩:=c7J hw (by simp) hi;refine⟨_,rfl,hr,?_⟩;show TS (st.map Prod.snd) 8 (b::w) ((bump (b::w) st).map Prod.snd);rw[c3G];exact .sign _ _ k1 (by rw[k2,<-c1J];exact hc)
 ·cases st with
  | nil=>rw[a4U h0 hi]at h;cases h
  | cons z st=>obtain⟨q,p⟩:=z;rw[a5R h0 hi]at h;cases h
theorem a5z {r:MR}(h:toks.length<3000):roomy toks j r=r:=b4R (by simp only[leB,decide_eq_false_iff_not];omega)
theorem a5B (hd:u.drop e=pre ++(b::r))(hp:pre=[]∨pre=[32]∨pre=[10])(hb:a6q b=false)(hc:b.toNat≠47∨(r.headD 0).toNat≠47) :
  a0W u e=e+pre.length/\e+pre.length<u.length/\u.drop (e+pre.length)=b::r/\u.getD (e+pre.length) 0=b:=by
 have h2:u.drop (e+pre.length)=b::r:=a3d hd rfl;have hl:=b7n h2;have h0:u.getD (e+pre.length) 0=b:=by have:=getD_drop u (e+pre.length) 0;rw[h2]at this;exact this
 have h1:u.getD (e+pre.length+1) 0=r.headD 0:=by
  have:=getD_drop u (e+pre.length) 1;rw[h2]at this;rw[this];cases r<;>rfl
 have hs:a0W u (e+pre.length)=e+pre.length:=b78 (by omega) (by rw[h0];exact hb) (by rw[h0,h1];exact hc);refine⟨?_,by omega,h2,h0⟩;rcases hp with rfl|rfl|rfl
 ·exact hs
 ·have hb0:u.getD e 0=32:=by have:=getD_drop u e 0;rw[hd]at this;exact this
  have hle:e<u.length:=by simp only[List.length_cons,List.length_nil]at hl;omega
  rw[a9A hle (by rw[hb0];decide)];exact hs
 ·have hb0:u.getD e 0=10:=by have:=getD_drop u e 0;rw[hd]at this;exact this
  have hle:e<u.length:=by simp only[List.length_cons,List.length_nil]at hl;omega
  rw[a9A hle (by rw[hb0];decide)];exact hs
def sgnP (w:List UInt8):Bool:=(decide (w.length=1)||decide (w.length=2))&&(!a6q (w.headD 0)&&(!decide ((w.headD 0).toNat=34)&&(!U5 (w.headD 0)&&(!a1b (w.headD 0)&&(decide ((w.headD 0).toNat≠47)||decide (w.length=1))))))
theorem c7K:a1j.all sgnP=true:=by decide
theorem sign_P (h:a9g a1j w=true):sgnP w=true:=by
 simp only[a9g,List.any_eq_true,decide_eq_true_eq]at h;obtain⟨y,h1,rfl⟩:=h;exact List.all_eq_true.1 c7K y h1
def TL (t:List UInt8):Prop:=t=[] ∨ ∃c r,t=c::r/\(c=32∨c=40∨c=41∨c=10)
theorem no32 (b:UInt8){c:UInt8}(hc:c=32∨c=40∨c=41∨c=10):a9g a1j [b,c]=false:=by rcases hc with rfl|rfl|rfl|rfl<;>simp[a9g,a1j]
theorem c25 (hd:u.drop i=w++tl)(hw:a9g a1j w=true)(ht:TL tl):a2w u i 2=w:=by
 have hP:=sign_P hw;simp only[sgnP,Bool.and_eq_true,Bool.or_eq_true,decide_eq_true_eq]at hP;have hlen:=congrArg List.length hd;rw[List.length_drop,List.length_append]at hlen;match w,hP with
 | [b],_ =>
  simp only[List.length_cons,List.length_nil]at hlen;have e1:(u.take (i+1)).drop i=[b]:=by rw[List.drop_take,hd,show i+1-i=1 by omega];rfl
  have l1:leB ((i+1:Nat):Int) u.length=true:=by simp only[leB,decide_eq_true_eq];omega
  have e2:(leB ((i+(1+1):Nat):Int) u.length&&a9g a1j ((u.take (i+(1+1))).drop i))=false:=by
   rcases ht with rfl |⟨c,r,rfl,hc⟩
   ·have:leB ((i+(1+1):Nat):Int) u.length=false:=by simp only[leB,decide_eq_false_iff_not];simp only[List.length_nil]at hlen;omega
    rw[this];rfl
   ·have:(u.take (i+(1+1))).drop i=[b,c]:=by rw[List.drop_take,hd,show i+(1+1)-i=2 by omega];rfl
    rw[this,no32 b hc,Bool.and_false]
  simp only[a2w,e2];simp only[Nat.zero_add,e1,l1,hw,Bool.and_self]
 | [b,c],_ =>
  simp only[List.length_cons,List.length_nil]at hlen;have e2:(u.take (i+(1+1))).drop i=[b,c]:=by rw[List.drop_take,hd,show i+(1+1)-i=2 by omega];rfl
  have l2:leB ((i+(1+1):Nat):Int) u.length=true:=by simp only[leB,decide_eq_true_eq];omega
  simp only[a2w,e2,l2,hw,Bool.and_self]
 | [],hP=>simp at hP
 | _::_::_::_,hP=>simp at hP
theorem c6D {p:UInt8->Bool}{tl:List UInt8}(ht:p (tl.headD 0)=false∨tl=[]):∀{w:List UInt8},w.all p=true ->(w++tl).takeWhile p=w
 | [],_=>by
  cases tl with
  | nil=>rfl
  | cons c tl =>
   rcases ht with h|h
   ·rw[List.nil_append,List.takeWhile_cons];have h:p c=false:=h;rw[h];rfl
   ·cases h
 | b::w,h=>by
  rw[List.all_cons,Bool.and_eq_true]at h;rw[List.cons_append,List.takeWhile_cons,h.1,if_pos rfl,c6D ht h.2]
theorem run_at {p:UInt8->Bool}(hd:u.drop i=w++tl)(ht:p (tl.headD 0)=false∨tl=[])(hw:w.all p=true):a1c p u i=i+w.length/\(u.take (a1c p u i)).drop i=w/\u.getD (a1c p u i) 0=tl.headD 0:=by
 have h1:=c6D ht hw;have h2:a1c p u i=i+w.length:=by unfold a1c;rw[hd,h1]
 refine⟨h2,by rw[b71,hd,h1],?_⟩;have:=getD_drop u (i+w.length) 0;rw[a3d hd rfl,Nat.add_zero]at this;rw[h2,this];cases tl<;>rfl
theorem spK_name (w:List UInt8):spK (a4F w) w=w:=by
 unfold a4F;split
 ·rfl
 ·split<;>rfl
theorem step_of (hd:u.drop e=pre ++(spK k x++tl))(hp:pre=[]∨pre=[32]∨pre=[10])(ht:TL tl)(hT:TS (st.map Prod.snd) k x ps)(hr:toks.length<3000) :
  ∃y,stepM u ⟨e,toks,st⟩=.go y/\(∃a l,y.toks=toks++[⟨k,x,a,l⟩])/\y.i=e+pre.length+(spK k x).length/\y.st.map Prod.snd=ps:=by
 have ht2:∀p:UInt8->Bool,p 32=false->p 40=false->p 41=false->p 10=false->p (tl.headD 0)=false∨tl=[]:=fun p hp hp2 hp3 hp4=>by
  rcases ht with rfl |⟨c,r,rfl,rfl|rfl|rfl|rfl⟩
  ·exact .inr rfl
  ·exact .inl hp
  ·exact .inl hp2
  ·exact .inl hp3
  ·exact .inl hp4
 generalize hs:st.map Prod.snd=S at hT;cases hT with
 | tail x ps h =>
  cases st with
  | nil=>cases hs
  | cons z st =>
   obtain⟨q,p⟩:=z;simp only[List.map_cons,List.cons.injEq]at hs;obtain⟨rfl,rfl⟩:=hs;have es:spK 7 x=41 ::(Rp.esc x++[34]):=rfl;rw[es,List.cons_append]at hd;obtain⟨h0,hi,h2,h3⟩:=a5B hd hp (by decide) (.inl (by decide));obtain⟨-,e1⟩:=a2F (toks:=toks) (st:=st) (q:=q) (p:=0) h0 hi (by rw[h3];rfl);have hd2:u.drop (e+pre.length+1)=Rp.esc x ++(34::tl):=by rw[a3d (a:=[41]) (k:=1) h2 rfl];simp
   rw[e1,a5z hr,b9z hd2 h];refine⟨_,rfl,⟨_,_,rfl⟩,?_,rfl⟩;rw[es];simp;omega
 | mid x ps h h5 =>
  cases st with
  | nil=>cases hs
  | cons z st =>
   obtain⟨q,p⟩:=z;simp only[List.map_cons,List.cons.injEq]at hs;obtain⟨rfl,rfl⟩:=hs;have es:spK 6 x=41 ::(Rp.esc x++[92,40]):=rfl;rw[es,List.cons_append]at hd;obtain⟨h0,hi,h2,h3⟩:=a5B hd hp (by decide) (.inl (by decide));obtain⟨-,e1⟩:=a2F (toks:=toks) (st:=st) (q:=q) (p:=0) h0 hi (by rw[h3];rfl);have hd2:u.drop (e+pre.length+1)=Rp.esc x ++(92::40::tl):=by rw[a3d (a:=[41]) (k:=1) h2 rfl];simp
   rw[List.length_map]at h5;rw[e1,a5z hr,b7O hd2 h h5];refine⟨_,rfl,⟨_,_,rfl⟩,?_,rfl⟩;rw[es];simp;omega
 | text x ps h =>
  subst hs;have es:spK 4 x=34 ::(Rp.esc x++[34]):=rfl;rw[es,List.cons_append]at hd;obtain⟨h0,hi,h2,h3⟩:=a5B hd hp (by decide) (.inl (by decide));have hd2:u.drop (e+pre.length+1)=Rp.esc x ++(34::tl):=by rw[a3d (a:=[34]) (k:=1) h2 rfl];simp
  rw[a4s h0 hi (by rw[h3];exact a5T (by decide)) (by rw[h3];rfl),a5z hr,b9z hd2 h];refine⟨_,rfl,⟨_,_,rfl⟩,?_,rfl⟩;rw[es];simp;omega
 | head x ps h h5 =>
  subst hs;have es:spK 5 x=34 ::(Rp.esc x++[92,40]):=rfl;rw[es,List.cons_append]at hd;obtain⟨h0,hi,h2,h3⟩:=a5B hd hp (by decide) (.inl (by decide));have hd2:u.drop (e+pre.length+1)=Rp.esc x ++(92::40::tl):=by rw[a3d (a:=[34]) (k:=1) h2 rfl];simp
  rw[List.length_map]at h5;rw[a4s h0 hi (by rw[h3];exact a5T (by decide)) (by rw[h3];rfl),a5z hr,b7O hd2 h h5];refine⟨_,rfl,⟨_,_,rfl⟩,?_,rfl⟩;rw[es];simp;omega
 | int w ps h h1 h2 =>
  subst hs;have es:spK 3 x=x:=rfl;rw[es]at hd ⊢;cases x with
  | nil=>exact absurd rfl h
  | cons b w =>
  have hb:U5 b=true:=by rw[List.all_cons,Bool.and_eq_true]at h1;exact h1.1
  have hb2:=hb;simp only[U5,decide_eq_true_eq]at hb2;rw[List.cons_append]at hd;obtain⟨h0,hi,h3,h4⟩:=a5B hd hp (by simp only[a6q,decide_eq_false_iff_not];omega) (.inl (by omega));have h5:u.drop (e+pre.length) =(b::w)++tl:=h3;obtain⟨r1,r2,r3⟩:=run_at h5 (ht2 U5 (by decide) (by decide) (by decide) (by decide)) h1;rw[a3v h0 hi (by rw[h4];exact a5T (by omega)) (by rw[h4];omega) (by rw[h4];exact hb),a5z hr,r2,r3,h2 _ (by rcases ht with rfl |⟨c,r,rfl,rfl|rfl|rfl|rfl⟩<;>rfl)];refine⟨_,rfl,⟨_,_,rfl⟩,?_,rfl⟩;exact r1
 | name w ps h h6 h1 h2 =>
  subst hs;rw[spK_name]at hd ⊢;cases x with
  | nil=>exact absurd rfl h
  | cons b w =>
  have hb:a1b b=true:=h6;have hb2:=hb;simp only[a1b,decide_eq_true_eq]at hb2;rw[List.cons_append]at hd;obtain⟨h0,hi,h3,h4⟩:=a5B hd hp (by simp only[a6q,decide_eq_false_iff_not];omega) (.inl (by omega));have h5:u.drop (e+pre.length) =(b::w)++tl:=h3;obtain⟨r1,r2,r3⟩:=run_at h5 (ht2 a2J (by decide) (by decide) (by decide) (by decide)) h1;rw[a2G h0 hi (by rw[h4];exact a5T (by omega)) (by rw[h4];omega) (by rw[h4];simp only[U5,decide_eq_false_iff_not];omega) (by rw[h4];exact hb),a5z hr,r2,h2];refine⟨_,rfl,⟨_,_,rfl⟩,?_,rfl⟩;exact r1
 | sign w ps h h1 =>
  subst hs;have es:spK 8 x=x:=rfl;rw[es]at hd ⊢;have hP:=sign_P h;cases x with
  | nil=>exact absurd hP (by decide)
  | cons b w =>
  simp only[sgnP,List.headD_cons,Bool.and_eq_true,Bool.or_eq_true,Bool.not_eq_true',decide_eq_true_eq,decide_eq_false_iff_not]at hP;obtain⟨p1,p2,p3,p4,p5,p6⟩:=hP;rw[List.cons_append]at hd;obtain⟨h0,hi,h3,h4⟩:=a5B hd hp p2 (by
   rcases p6 with p6|p6
   ·exact .inl (of_decide_eq_true p6)
   ·right;cases w with
    | nil =>
     rcases ht with rfl |⟨c,r,rfl,rfl|rfl|rfl|rfl⟩
     ·decide
     ·show(32:UInt8).toNat≠47;decide
     ·show(40:UInt8).toNat≠47;decide
     ·show(41:UInt8).toNat≠47;decide
     ·show(10:UInt8).toNat≠47;decide
    | cons c w=>simp at p6)
  have h5:u.drop (e+pre.length) =(b::w)++tl:=h3;rw[a2p (w:=b::w) h0 hi (by rw[h4,c1J];exact h1) (by rw[h4];exact of_decide_eq_false p3) (by rw[h4];exact p4) (by rw[h4];exact p5) (c25 h5 h ht) (by simp),a5z hr];refine⟨_,rfl,⟨_,_,rfl⟩,rfl,?_⟩;exact c3G _ _
def KT (l:List Tok):List (Int×List UInt8):=l.map fun t=>(t.k,t.t)
def TQ (k:Int)(x t:List UInt8):Prop:=TL t∨k=8/\x=[40]
theorem noOpen (c:UInt8):a9g a1j [40,c]=false:=by simp[a9g,a1j]
theorem c4X (hd:u.drop i=40::tl):a2w u i 2=[40]:=by
 cases tl with
 | nil=>exact c25 (w:=[40]) (tl:=[]) hd (by decide) (.inl rfl)
 | cons c r =>
  have hlen:=congrArg List.length hd;rw[List.length_drop,List.length_cons,List.length_cons]at hlen;have e1:(u.take (i+1)).drop i=[40]:=by rw[List.drop_take,hd,show i+1-i=1 by omega];rfl
  have l1:leB ((i+1:Nat):Int) u.length=true:=by simp only[leB,decide_eq_true_eq];omega
  have e2:(leB ((i+(1+1):Nat):Int) u.length&&a9g a1j ((u.take (i+(1+1))).drop i))=false:=by
   have:(u.take (i+(1+1))).drop i=[40,c]:=by rw[List.drop_take,hd,show i+(1+1)-i=2 by omega];rfl
   rw[this,noOpen,Bool.and_false]
  simp only[a2w,e2];simp only[Nat.zero_add,e1,l1,show a9g a1j [40]=true by decide,Bool.and_self]
theorem ts_bump (h:TS S k x S')(hk:k=8):S'=b5E x S:=by
 cases h with
 | sign _ _ _ _=>rfl
 | name _ _ _ _ _ _ =>
  exfalso;revert hk;unfold a4F;split
  ·omega
  ·split<;>omega
 | _=>omega
theorem b8b (hd:u.drop e=pre ++(spK k x++tl))(hp:pre=[]∨pre=[32]∨pre=[10])(ht:TQ k x tl)(hT:TS (st.map Prod.snd) k x ps)(hr:toks.length<3000) :
  ∃y,stepM u ⟨e,toks,st⟩=.go y/\(∃a l,y.toks=toks++[⟨k,x,a,l⟩])/\y.i=e+pre.length+(spK k x).length/\y.st.map Prod.snd=ps:=by
 rcases ht with ht |⟨rfl,rfl⟩
 ·exact step_of hd hp ht hT hr
 ·rw[ts_bump hT rfl];have hd:u.drop e=pre ++(40::tl):=hd;obtain⟨h0,hi,h3,h4⟩:=a5B hd hp (by decide) (.inl (by decide));rw[a2p (w:=[40]) h0 hi (by rw[h4];exact a5T (by decide)) (by rw[h4];decide) (by rw[h4];decide) (by rw[h4];decide) (c4X h3) (by simp),a5z hr];refine⟨_,rfl,⟨_,_,rfl⟩,rfl,?_⟩;show(bump [40] st).map Prod.snd=_;exact c3G [40] st
inductive TP:List Int->Int->List UInt8->List Int->Prop
 | of {S:List Int} {k:Int} {x:List UInt8} {S':List Int} (h:TS S k x S'):TP S k x S'
 | mid (x:List UInt8) (st:List Int) (h:x.all okB=true):TP (0::st) 6 x (0::st)
 | head (x:List UInt8) (st:List Int) (h:x.all okB=true):TP st 5 x (0::st)
theorem b7M {text:List UInt8}(hd:q.drop i=Rp.esc r ++(92::40::z))(hok:r.all okB=true)(hi:3<=ins):∃c a,part q o ins i text=.err c a:=by
 have h2:q.drop (i+(Rp.esc r).length)=92::40::z:=a3d hd rfl;have h0:q.getD (i+(Rp.esc r).length) 0=92:=by have:=getD_drop q (i+(Rp.esc r).length) 0;rw[h2]at this;exact this
 have h1:q.getD (i+(Rp.esc r).length+1) 0=40:=by have:=getD_drop q (i+(Rp.esc r).length) 1;rw[h2]at this;exact this
 have hl:=b7n h2;rw[a3V r _ i text hd hok,b9y (by omega) (by rw[h0];decide) (by rw[h0];rfl) (by rw[h1];rfl) hi];exact⟨_,_,rfl⟩
theorem b9J (hd:u.drop e=pre ++(spK k x++tl))(hp:pre=[]∨pre=[32]∨pre=[10])(ht:TQ k x tl)(hT:TP (st.map Prod.snd) k x ps)(hy:stepM u ⟨e,toks,st⟩=.go y) :
  (∃a l,y.toks=toks++[⟨k,x,a,l⟩])/\y.i=e+pre.length+(spK k x).length/\y.st.map Prod.snd=ps:=by
 obtain⟨_,_,hr,_⟩:=b5x hy;simp only at hr;have go:TS (st.map Prod.snd) k x ps ->(∃a l,y.toks=toks++[⟨k,x,a,l⟩])/\y.i=e+pre.length+(spK k x).length/\y.st.map Prod.snd=ps:=fun h=>by
  obtain⟨y',e1,e2⟩:=b8b (toks:=toks) hd hp ht h hr;rw[hy]at e1;cases e1;exact e2
 generalize hs:st.map Prod.snd=S at hT;cases hT with
 | of h=>rw[<-hs]at h;exact go h
 | mid x S h =>
  cases st with
  | nil=>cases hs
  | cons z st =>
   obtain⟨q,p⟩:=z;simp only[List.map_cons,List.cons.injEq]at hs;obtain⟨rfl,rfl⟩:=hs;rcases Nat.lt_or_ge st.length 3 with h5|h5
   ·exact go (.mid x _ h (by rw[List.length_map];exact h5))
   ·exfalso;have es:spK 6 x=41 ::(Rp.esc x++[92,40]):=rfl;rw[es,List.cons_append]at hd;obtain⟨h0,hi,h2,h3⟩:=a5B hd hp (by decide) (.inl (by decide));obtain⟨-,e1⟩:=a2F (toks:=toks) (st:=st) (q:=q) (p:=0) h0 hi (by rw[h3];rfl);have hd2:u.drop (e+pre.length+1)=Rp.esc x ++(92::40::tl):=by rw[a3d (a:=[41]) (k:=1) h2 rfl];simp
    obtain⟨c,a,ep⟩:=b7M (o:=q) (text:=[]) hd2 h h5;rw[e1,a5z hr,ep]at hy;cases hy
 | head x S h =>
  subst hs;rcases Nat.lt_or_ge st.length 3 with h5|h5
  ·exact go (.head x _ h (by rw[List.length_map];exact h5))
  ·exfalso;have es:spK 5 x=34 ::(Rp.esc x++[92,40]):=rfl;rw[es,List.cons_append]at hd;obtain⟨h0,hi,h2,h3⟩:=a5B hd hp (by decide) (.inl (by decide));have hd2:u.drop (e+pre.length+1)=Rp.esc x ++(92::40::tl):=by rw[a3d (a:=[34]) (k:=1) h2 rfl];simp
   obtain⟨c,a,ep⟩:=b7M (o:=e+pre.length) (text:=[]) hd2 h h5;rw[a4s h0 hi (by rw[h3];exact a5T (by decide)) (by rw[h3];rfl),a5z hr,ep]at hy;cases hy
theorem c6H (hd:u.drop e=pre ++(spK k x++tl))(hp:pre=[]∨pre=[32]∨pre=[10])(ht:TQ k x tl)(hT:TP S k x S'):a0W u e<u.length:=by
 have go:∀{S S':List Int},TS S k x S'->a0W u e<u.length:=fun{S S'} h=>by
  have hm:(S.map fun p=>((0:Nat),p)).map Prod.snd=S:=by rw[List.map_map];exact List.map_id' S
  obtain⟨y,e1,_⟩:=b8b (toks:=[]) (st:=S.map fun p=>((0:Nat),p)) hd hp ht (by rw[hm];exact h) (by simp);obtain⟨t,_,e2,e3,_⟩:=b8a e1;rw[<-e2];exact e3
 cases hT with
 | of h=>exact go h
 | mid x S h=>exact go (.mid x [] h (by simp))
 | head x S h=>exact go (.head x [] h (by simp))
inductive Ch:List Int->List (Int×List UInt8)->List Int->Prop
 | nil (S:List Int):Ch S [] S
 | cons {S S1 S2:List Int} {p:Int×List UInt8} {r:List (Int×List UInt8)}:TP S p.1 p.2 S1->Ch S1 r S2->Ch S (p::r) S2
theorem Ch.app {S1:List Int}{b:List (Int×List UInt8)}(h:Ch S a S1)(g:Ch S1 b S2):Ch S (a++b) S2:=by
 induction h with
 | nil S=>exact g
 | cons h1 _ ih=>exact .cons h1 (ih g)
inductive Cs:List Int->List (Int×List UInt8)->List Int->Prop
 | nil (S:List Int):Cs S [] S
 | cons {S S1 S2:List Int} {p:Int×List UInt8} {r:List (Int×List UInt8)}:TS S p.1 p.2 S1->Cs S1 r S2->Cs S (p::r) S2
inductive Ly:List (Int×List UInt8)->List UInt8->Prop
 | nil:Ly [] []
 | nl:Ly [] [10]
 | cons {p:Int×List UInt8} {r:List (Int×List UInt8)} {pre t:List UInt8}:(pre=[]∨pre=[32]∨pre=[10])->TQ p.1 p.2 t->Ly r t->Ly (p::r) (pre ++(spK p.1 p.2++t))
theorem ly_end (h:Ly [] (u.drop e)):u.length<=a0W u e:=by
 generalize ht:u.drop e=t at h;cases h with
 | nil =>
  have hl:u.length<=e:=by simpa using ht
  rw[b5v hl];exact hl
 | nl =>
  have hl:=b7n ht;have hb:u.getD e 0=10:=by have:=getD_drop u e 0;rw[ht]at this;exact this
  simp only[List.length_nil]at hl;rw[a9A (by omega) (by rw[hb];decide),b5v (by omega)];omega
def spW (l:List (Int×List UInt8)):List UInt8:=[32].intercalate (l.map fun p=>spK p.1 p.2)
theorem b0C (p:Int×List UInt8)(l:List (Int×List UInt8)):spW (p::l)=spK p.1 p.2 ++(match l with | []=>[]|_::_=>32::spW l):=by
 cases l with
 | nil=>simp[spW,List.intercalate]
 | cons u l=>simp[spW,List.intercalate]
theorem ly_sp {b:List (Int×List UInt8)}{t:List UInt8}(hb:Ly b t)(ht:TL t):∀(ws:List (Int×List UInt8)) (pre:List UInt8),(pre=[]∨pre=[32]∨pre=[10])->ws ≠ []->Ly (ws++b) (pre ++(spW ws++t))
 | [],_,_,h=>absurd rfl h
 | [p],pre,hp,_=>by
  have e:spW [p]=spK p.1 p.2:=by rw[b0C];simp
  rw[e];exact .cons hp (.inl ht) hb
 | p::q::r,pre,hp,_=>by
  rw[b0C,List.append_assoc];exact .cons hp (.inl (.inr ⟨32,_,rfl,.inl rfl⟩)) (ly_sp hb ht (q::r) [32] (.inr (.inl rfl)) (by simp))
theorem walk {x z:MS}(h:Reach u x z)(hz:stepM u z=.done l):∀(ws:List (Int×List UInt8)) (S:List Int),Ch (x.st.map Prod.snd) ws S->Ly ws (u.drop x.i)->KT z.toks=KT x.toks++ws:=by
 induction h with
 | refl x =>
  intro ws S hc hd;cases hc with
  | nil=>simp
  | @cons _ S1 _ p r h1 h2 =>
   exfalso;generalize ht:u.drop x.i=t at hd;cases hd with
   | cons hp ht2 hr =>
    have:=c6H ht hp ht2 h1;have:=(a5Q hz).2;omega
 | step x y z h1 h2 ih =>
  intro ws S hc hd;cases hc with
  | nil =>
   exfalso;obtain⟨t,_,e2,e3,_⟩:=b8a h1;have hl:=ly_end hd;omega
  | @cons _ S1 _ p r k1 k2 =>
   generalize ht:u.drop x.i=t at hd;cases hd with
   | @cons _ _ pre t hp ht2 hr =>
   obtain⟨i',toks',st'⟩:=x;obtain⟨⟨a,b,g1⟩,g2,g3⟩:=b9J (toks:=toks') ht hp ht2 k1 h1;rw[<-g3]at k2;rw[ih hz r S k2 (by
    simp only at ht;rw[g2,<-List.drop_drop,<-List.drop_drop,ht,List.drop_left,List.drop_left];exact hr),g1]
   simp[KT]
theorem walk2 {x z:MS}(h:Reach u x z)(hz:stepM u z=.done l):∀(a b:List (Int×List UInt8)) (S1 S2:List Int),Ch (x.st.map Prod.snd) a S1->Ch S1 b S2->Ly (a++b) (u.drop x.i)->Cs (x.st.map Prod.snd) a S1:=by
 induction h with
 | refl x =>
  intro a b S1 S2 hc hc2 hd;cases hc with
  | nil=>exact .nil _
  | @cons _ S1 _ p r h1 h2 =>
   exfalso;generalize ht:u.drop x.i=t at hd;cases hd with
   | cons hp ht2 hr =>
    have:=c6H ht hp ht2 h1;have:=(a5Q hz).2;omega
 | step x y z h1 h2 ih =>
  intro a b S1 S2 hc hc2 hd;cases hc with
  | nil=>exact .nil _
  | @cons _ S3 _ p r k1 k2 =>
   generalize ht:u.drop x.i=t at hd;cases hd with
   | @cons _ _ pre t hp ht2 hr =>
   obtain⟨i',toks',st'⟩:=x;obtain⟨⟨a',b',g1⟩,g2,g3⟩:=b9J (toks:=toks') ht hp ht2 k1 h1;obtain⟨t',e1,_,e3⟩:=b5x h1;rw[g1]at e1;simp only[List.append_cancel_left_eq,List.cons.injEq,and_true]at e1;rw[<-e1,g3]at e3;refine .cons e3 ?_;rw[<-g3]at k2 ⊢;exact ih hz r b S1 S2 k2 hc2 (by
    simp only at ht;rw[g2,<-List.drop_drop,<-List.drop_drop,ht,List.drop_left,List.drop_left];exact hr)
theorem said {b:List (Int×List UInt8)}(hc:Ch [] a S)(hc2:Ch S b S2)(hy:Ly (a++b) u)(h8:u.length<=8000)(h:a2y u=.done l):KT l=a++b/\Cs [] a S:=by
 have he:=(a6L u).2.2 h8;rw[h]at he;obtain⟨z,h1,h2,_⟩:=he;have e1:=walk h1 h2 (a++b) S2 (hc.app hc2) hy;rw[(a5Q h2).1]at e1;exact⟨by simpa [KT]using e1,walk2 h1 h2 a b S S2 hc hc2 hy⟩
theorem c1M {u:List UInt8}:∀(ws:List (Int×List UInt8)) (e:Nat) (toks:List Tok) (st:List (Nat×Int)) (S:List Int),Cs (st.map Prod.snd) ws S->Ly ws (u.drop e)->toks.length+ws.length<=3000 -> ∃e' toks' st',Reach u ⟨e,toks,st⟩ ⟨e',toks',st'⟩/\KT toks'=KT toks++ws/\u.length<=a0W u e'/\st'.map Prod.snd=S
 | [],e,toks,st,S,hc,hd,_=>by
  cases hc;exact⟨e,toks,st,.refl _,by simp,ly_end hd,rfl⟩
 | p::ws,e,toks,st,S,hc,hd,hl=>by
  simp only[List.length_cons]at hl;cases hc with
  | @cons _ S1 _ _ _ k1 k2 =>
   generalize ht:u.drop e=t at hd;cases hd with
   | @cons _ _ pre t hp ht2 hr =>
   obtain⟨⟨i',toks',st'⟩,h1,⟨a,l,h2⟩,h3,h4⟩:=b8b (toks:=toks) ht hp ht2 k1 (by omega);simp only at h2 h3 h4;subst h2;subst h3;rw[<-h4]at k2;obtain⟨e',toks',st2,g1,g2,g3,g4⟩:=c1M ws (e+pre.length+(spK p.1 p.2).length) (toks++[⟨p.1,p.2,a,l⟩]) st' S k2 (by
    rw[<-List.drop_drop,<-List.drop_drop,ht,List.drop_left,List.drop_left];exact hr) (by simp;omega)
   exact⟨e',toks',st2,.step _ _ _ h1 g1,by rw[g2];simp[KT],g3,g4⟩
theorem say {ws:List (Int×List UInt8)}(hc:Cs [] ws [])(hy:Ly ws u)(hl:ws.length<=3000)(h8:u.length<=8000):∃m,a2y u=.done m/\KT m=ws:=by
 obtain⟨e',toks',st',h1,h2,h3,h4⟩:=c1M (u:=u) ws 0 [] [] [] hc hy (by simpa using hl);have hs:st'=[]:=by simpa using h4
 subst hs;exact⟨toks',Ends.det _ ((a6L u).2.2 h8) ⟨_,h1,a4U rfl h3,fun z hz=>(by cases hz)⟩,by simpa [KT]using h2⟩
variable {l:List Tok} {s:List UInt8} {x y:MS}
def tlen:PR->Nat | .fin t _=>t.length | .more t _=>t.length | .err _ _=>0
theorem b2Q (s:List UInt8)(q ins:Nat):∀(f i:Nat) (text:List UInt8),tlen (a7a s q ins f i text)<=text.length+(s.length-i)
 | 0,i,text=>Nat.zero_le _
 | f+1,i,text=>by
  have h1:=b2Q s q ins f (i+1) (text++[s.getD i 0]);have h2:=b2Q s q ins f (i+2) (text++[10]);have h3:=b2Q s q ins f (i+2) (text++[9]);have h4:=b2Q s q ins f (i+2) (text++[s.getD (i+1) 0]);simp only[List.length_append,List.length_singleton]at h1 h2 h3 h4;rcases Nat.lt_or_ge i s.length with hi|hi
  ·simp only[a7a];repeat' split
   all_goals first|exact Nat.zero_le _ |(simp only[tlen];omega)|omega
  ·have:(decide (i<s.length)&&decide (32 <=(s.getD i 0).toNat))=false:=by rw[Bool.and_eq_false_iff,decide_eq_false_iff_not];exact .inl (by omega)
   simp only[a7a,this];exact Nat.zero_le _
theorem c5Z {toks:List Tok}{st:List (Nat×Int)}{q j ins:Nat}{a b:Int}(h:a2k toks st q j a b (part s q ins (j+1) [])=.go y) :
  ∃t:Tok,y.toks=toks++[t]/\t.t.length<=s.length:=by
 have hp:=b2Q s q ins (s.length-(j+1)) (j+1) [];simp only[List.length_nil,Nat.zero_add]at hp;have hp:tlen (part s q ins (j+1) [])<=_:=hp;cases hq:part s q ins (j+1) []with
 | err c a=>rw[hq]at h;cases h
 | fin t e =>
  rw[hq]at h hp;simp only[a2k]at h;simp only[tlen]at hp;cases h;exact⟨_,rfl,show t.length<=_ by omega⟩
 | more t e =>
  rw[hq]at h hp;simp only[a2k]at h;simp only[tlen]at hp;cases h;exact⟨_,rfl,show t.length<=_ by omega⟩
theorem b94 (s:List UInt8)(a b:Nat):((s.take a).drop b).length<=s.length:=by
 rw[List.length_drop,List.length_take];omega
theorem c27 (s:List UInt8)(i:Nat):∀k,(a2w s i k).length<=s.length
 | 0=>Nat.zero_le _
 | k+1=>by
  unfold a2w;split
  ·exact b94 _ _ _
  ·exact c27 s i k
theorem step_txt (h:stepM s x=.go y):∃t:Tok,y.toks=x.toks++[t]/\t.t.length<=s.length:=by
 obtain⟨i0,toks,st⟩:=x;obtain⟨i,h0⟩:∃i,a0W s i0=i:=⟨_,rfl⟩
 show ∃t:Tok,y.toks=toks++[t]/\_;rcases Nat.lt_or_ge i s.length with hi|hi
 ·cases hc:closes (s.getD i 0).toNat st with
  | true =>
   cases st with
   | nil=>cases hc
   | cons z st =>
    obtain⟨q,p⟩:=z;rw[(a2F h0 hi hc).2]at h;exact c5Z (a1B h).2
  | false =>
   by_cases h1:(s.getD i 0).toNat=34
   ·rw[a4s h0 hi hc h1]at h;exact c5Z (a1B h).2
   ·cases h2:U5 (s.getD i 0)with
    | true =>
     rw[a3v h0 hi hc h1 h2]at h;have h:=(a1B h).2;split at h
     ·cases h
     ·cases h;exact⟨_,rfl,b94 _ _ _⟩
    | false =>
     cases h3:a1b (s.getD i 0)with
     | true =>
      rw[a2G h0 hi hc h1 h2 h3]at h;have h:=(a1B h).2;split at h
      ·cases h
      ·cases h;exact⟨_,rfl,b94 _ _ _⟩
     | false =>
      cases hw:a2w s i 2 with
      | nil=>rw[a5P h0 hi hc h1 h2 h3 hw]at h;cases h
      | cons b w =>
       have hl:=c27 s i 2;rw[hw]at hl;rw[a2p h0 hi hc h1 h2 h3 hw (by simp)]at h;have h:=(a1B h).2;cases h;exact⟨_,rfl,hl⟩
 ·cases st with
  | nil=>rw[a4U h0 hi]at h;cases h
  | cons z st=>obtain⟨q,p⟩:=z;rw[a5R h0 hi]at h;cases h
theorem c7B (h:Reach s x y):(∀t∈x.toks,t.t.length<=s.length) -> ∀t∈y.toks,t.t.length<=s.length:=by
 induction h with
 | refl x=>exact fun h=>h
 | step x y z h1 _ ih =>
  intro h2;obtain⟨t,g1,g2⟩:=step_txt h1;refine ih fun u hu=>?_;rw[g1]at hu;rcases List.mem_append.1 hu with hu|hu
  ·exact h2 u hu
  ·rcases List.mem_singleton.1 hu with rfl;exact g2
theorem tok_txt (h:a2y s=.done l):∀t∈l,t.t.length<=8000:=by
 obtain⟨h1,_,h2⟩:=a6L s;have h3:=(h1.lay l h).1;obtain⟨y,g1,g2,_⟩:=h2 h3;rw[h]at g2;rw[<-(a5Q g2).1];exact fun t ht=>Nat.le_trans (c7B g1 (fun t ht=>by cases ht) t ht) h3
def V1 (kd:Int)(s:List UInt8):Prop :=
 (kd=1∨kd=2->s ≠ []/\a1b (s.headD 0)=true/\s.all a2J=true/\ltB 24 (s.length:Nat)=false/\a4F s=kd)/\(kd=3->IntW s/\s.all U5=true /\ ∀c,a1b c=false->a4y s c=false)/\(4<=kd/\kd<=7->s.all okB=true/\s.length<=8000)
theorem ts_V1 {S S':List Int}{k:Int}{x:List UInt8}(h:TS S k x S')(hl:x.length<=8000)(hi:k=3->IntW x):V1 k x:=by
 have lit:∀{k:Int},(k=4∨k=5∨k=6∨k=7)->x.all okB=true->V1 k x:=fun hk ho=>⟨fun h=>by omega,fun h=>by omega,fun _=>⟨ho,hl⟩⟩
 cases h with
 | tail _ _ h=>exact lit (by omega) h
 | mid _ _ h _=>exact lit (by omega) h
 | text _ _ h=>exact lit (by omega) h
 | head _ _ h _=>exact lit (by omega) h
 | int _ _ h h1 h2=>exact⟨fun h=>by omega,fun _=>⟨hi rfl,h1,h2⟩,fun h=>by omega⟩
 | name _ _ h h0 h1 h2 =>
  refine⟨fun _=>⟨h,h0,h1,h2,rfl⟩,fun h=>absurd h (c2i _),fun h=>?_⟩;exfalso;revert h;unfold a4F;split
  ·omega
  ·split<;>omega
 | sign _ _ h h1=>exact⟨fun h=>by omega,fun h=>by omega,fun h=>by omega⟩
theorem reach_ts (h:Reach s x y):(∀t∈x.toks,∃S S',TS S t.k t.t S') -> ∀t∈y.toks,∃S S',TS S t.k t.t S':=by
 induction h with
 | refl x=>exact fun h=>h
 | step x y z h1 _ ih =>
  intro h2;obtain⟨t,g1,_,g2⟩:=b5x h1;refine ih fun u hu=>?_;rw[g1]at hu;rcases List.mem_append.1 hu with hu|hu
  ·exact h2 u hu
  ·rcases List.mem_singleton.1 hu with rfl;exact⟨_,_,g2⟩
theorem tok_V1 (h:a2y s=.done l):∀t∈l,V1 t.k t.t:=by
 intro t ht;obtain⟨h1,_,h2⟩:=a6L s;obtain⟨y,g1,g2,_⟩:=h2 (h1.lay l h).1;rw[h]at g2;obtain⟨S,S',g3⟩:=reach_ts g1 (fun t ht=>by cases ht) t (by rw[(a5Q g2).1];exact ht);exact ts_V1 g3 (tok_txt h t ht) (tok_int h t ht)
def okS (S:List Int):Prop:=S=[] ∨ ∃p r,S=p::r/\0<=p
theorem SG_ok:SGL.all (fun s=>a9g a1j s&&(!decide ((s.headD 0).toNat=41)&&(!decide (s=[40]) && !decide (s=[41]))))=true:=by decide
theorem KY_ok:KYL.all (fun s=>!decide (s=[])&&(a1b (s.headD 0)&&(s.all a2J&&(decide (s.length<=24)&&decide (a4F s=9)))))=true:=by decide
theorem b8V {b:Nat}(h:b≠41):∀S,b6S b S=false
 | []=>rfl
 | p::_=>by simp only[b6S,decide_eq_false h,Bool.and_false]
theorem ch_sign (h:s∈SGL)(S:List Int):TS S 8 s S:=by
 have h1:=List.all_eq_true.1 SG_ok s h;simp only[Bool.and_eq_true,Bool.not_eq_true',decide_eq_false_iff_not]at h1;obtain⟨g1,g2,g3,g4⟩:=h1;have e:b5E s S=S:=by
  cases S with
  | nil=>rfl
  | cons p r=>simp only[b5E,decide_eq_false g3,decide_eq_false g4]
 have:=TS.sign s S g1 (b8V g2 S);rw[e]at this;exact this
theorem ch_key (h:s∈KYL)(S:List Int):TS S 9 s S:=by
 have h1:=List.all_eq_true.1 KY_ok s h;simp only[Bool.and_eq_true,Bool.not_eq_true',decide_eq_false_iff_not,decide_eq_true_eq]at h1;obtain⟨g1,g2,g3,g4,g5⟩:=h1;have:=TS.name s S g1 g2 g3 (a0C (by omega));rw[g5]at this;exact this
theorem ch_tok {p:Int×List UInt8}(h:KO V1 p)(S:List Int):TS S p.1 p.2 S:=by
 obtain⟨k,s⟩:=p;rcases h with⟨hk,hv⟩ |⟨hk,hs⟩ |⟨hk,hs⟩|h
 ·simp only at hk hv ⊢;rcases hk with rfl|rfl|rfl|rfl
  ·obtain⟨g1,g2,g3,g4,g5⟩:=hv.1 (.inl rfl);have:=TS.name s S g1 g2 g3 g4;rw[g5]at this;exact this
  ·obtain⟨g1,g2,g3,g4,g5⟩:=hv.1 (.inr rfl);have:=TS.name s S g1 g2 g3 g4;rw[g5]at this;exact this
  ·obtain⟨g1,g2,g3⟩:=hv.2.1 rfl;exact .int s S g1.1 g2 g3
  ·exact .text s S (hv.2.2 (by omega)).1
 ·simp only at hk hs ⊢;subst hk;exact ch_sign hs S
 ·simp only at hk hs ⊢;subst hk;exact ch_key hs S
 ·obtain⟨rfl,rfl⟩:=Prod.mk.inj h;have:=TS.name [95] S (by decide) (by decide) (by decide) (a0C (by decide));rw[show a4F [95]=1 by
   unfold a4F;rw[show a9g a4n [95]=false by decide,show leB (65:Int) (([95]:List UInt8).getD 0 0).toNat=true from b9d (by decide),show leB (([95]:List UInt8).getD 0 0).toNat (90:Int)=false from c2n (by decide)];rfl]at this
  exact this
theorem ch_open (S:List Int):TS S 8 [40] (b5E [40] S):=.sign [40] S (by decide) (b8V (by decide) S)
theorem ch_iw {vs:List (List (Int×List UInt8)×List UInt8)}(h:∀v∈vs,∀S,okS S->Ch S v.1 S)(g:∀v∈vs,V1 4 v.2):vs ≠ [] -> ∀S,Ch (0::S) (iw vs) S:=by
 induction vs with
 | nil=>exact fun h=>absurd rfl h
 | cons v r ih =>
  intro _ S;have h1:=h v (by simp) (0::S) (.inr ⟨0,S,rfl,by omega⟩);have h2:=((g v (by simp)).2.2 (by omega)).1;cases r with
  | nil=>rw[iw];exact h1.app (.cons (.of (.tail _ S h2)) (.nil _))
  | cons q r=>rw[iw];exact h1.app (.cons (.mid _ S h2) (ih (fun v hv=>h v (by simp[hv])) (fun v hv=>g v (by simp[hv])) (by simp) S))
theorem bal_ch {w:List (Int×List UInt8)}(h:Bal V1 w):∀S,okS S->Ch S w S:=by
 induction h with
 | nil=>exact fun S _=>.nil S
 | tok h1 _ ih=>exact fun S hS=>.cons (.of (ch_tok h1 S)) (ih S hS)
 | @par w r h1 h2 ih1 ih2 =>
  intro S hS;refine .cons (.of (ch_open S)) ?_;rcases hS with rfl |⟨p,q,rfl,hp⟩
  ·exact(ih1 [] (.inl rfl)).app (.cons (.of (.sign [41] [] (by decide) rfl)) (ih2 [] (.inl rfl)))
  ·refine(ih1 _ (.inr ⟨p+1,q,rfl,by omega⟩)).app (.cons (S1:=p::q) (.of ?_) (ih2 _ (.inr ⟨p,q,rfl,hp⟩)));have:=TS.sign [41] ((p+1)::q) (by decide) (by simp only[b6S];rw[decide_eq_false (show ¬p+1=0 by omega)];rfl);have e:b5E [41] ((p+1)::q)=p::q:=by
    show(p+1-1)::q=p::q;rw[show p+1-1=p by omega]
   rw[e]at this;exact this
 | @int s vs r h1 h2 h3 h4 h5 ih3 ih5 =>
  intro S hS;exact .cons (.head s S (h1.2.2 (by omega)).1) ((ch_iw ih3 h4 h2 S).app (ih5 S hS))
end Go.Proofs.YtjhfloacokgdiaaGreatDoor.Sc
