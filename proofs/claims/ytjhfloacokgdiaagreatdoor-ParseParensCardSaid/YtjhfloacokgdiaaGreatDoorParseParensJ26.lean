/- Texts of ParseParens, joined. -/
import Derived.Test.YtjhfloacokgdiaaGreatDoorParseParensJ25
set_option maxRecDepth 100000
set_option maxHeartbeats 20000000
set_option linter.unusedSimpArgs false
set_option linter.unusedVariables false
set_option linter.unusedSectionVars false
namespace Go.Proofs.YtjhfloacokgdiaaGreatDoor.Sc
open Go Go.Vm
theorem signK_eq {s:List UInt8}{i:Nat}{w:List UInt8}(h:a1W s i 2=w)(hi:i<s.length):w =(s.take (i+w.length)).drop i:=by
 have h1:leB ((i+1:Nat):Int) s.length=true:=by simp only[leB,decide_eq_true_eq];omega
 simp only[a1W,h1,Bool.true_and]at h
 split at h
 ·rename_i hx
  simp only[Bool.and_eq_true,leB,decide_eq_true_eq]at hx
  have hl:((s.take (i+2)).drop i).length=2:=by rw[List.length_drop,List.length_take];omega
  rw[<-h]
  show _ =(s.take (i+((s.take (i+2)).drop i).length)).drop i
  rw[hl]
 ·split at h
  ·have hl:((s.take (i+1)).drop i).length=1:=by rw[List.length_drop,List.length_take];omega
   rw[<-h]
   show _ =(s.take (i+((s.take (i+1)).drop i).length)).drop i
   rw[hl]
  ·subst h;simp
theorem bad_eq (w:List UInt8)(nx:UInt8):a0H w nx =((ltB 1 w.length&&eqB (w.getD 0 0).toNat 48) ||(ltB 19 w.length ||(eqB w.length 19 && !(ltS w a3t||eqS w a3t)))||a0I nx):=by
 unfold a0H;simp only[Bool.or_assoc]
def okB (b:UInt8):Bool:=decide (32<=b.toNat)||decide (b.toNat=10)||decide (b.toNat=9)
theorem getD_drop (q:List UInt8)(i k:Nat):q.getD (i+k) 0 =(q.drop i).getD k 0:=by
 rw[List.getD_eq_getElem?_getD,List.getD_eq_getElem?_getD,List.getElem?_drop]
theorem b8o {q:List UInt8}{i:Nat}{b:UInt8}{r:List UInt8}(h:q.drop i=b::r):q.length=i+(r.length+1):=by
 have:=congrArg List.length h
 rw[List.length_drop,List.length_cons]at this;omega
theorem a2p {q:List UInt8}{i:Nat}{a z:List UInt8}(h:q.drop i=a++z){k:Nat}(hk:a.length=k):q.drop (i+k)=z:=by
 subst hk
 rw[<-List.drop_drop,h,List.drop_left]
theorem b8X {b:UInt8}{n:Nat}(h:b.toNat=n):b=UInt8.ofNat n:=by rw[<-h];simp
theorem a3d {q:List UInt8}{o ins:Nat}:∀(r z:List UInt8) (i:Nat) (text:List UInt8),q.drop i=Rp.esc r++z->r.all okB=true->part q o ins i text=part q o ins (i+(Rp.esc r).length) (text++r)
 | [],z,i,text,hd,_=>by simp[Rp.esc]
 | b::r,z,i,text,hd,hok=>by
  rw[List.all_cons,Bool.and_eq_true]at hok
  rw[Rp.a3K]at hd
  have hlen:i+((Rp.a5Z b).length+(Rp.esc r).length+z.length)<=q.length∨q.length<i:=by
   have:=congrArg List.length hd
   rw[List.length_drop]at this
   simp only[List.length_append]at this
   omega
  have h0:=getD_drop q i 0
  have h1:=getD_drop q i 1
  rw[hd]at h0 h1
  have hl1:=Rp.b2I b
  have hlen:i+((Rp.a5Z b).length+(Rp.esc r).length+z.length)<=q.length:=by
   rcases hlen with h|h
   ·exact h
   ·rw[List.drop_eq_nil_of_le (by omega)]at hd
    have:=congrArg List.length hd
    simp only[List.length_append,List.length_nil]at this;omega
  have fin:∀k,(Rp.a5Z b).length=k->q.drop (i+k)=Rp.esc r++z:=fun k hk=>a2p (by rw[hd,List.append_assoc]) hk
  by_cases c1:b=10
  ·subst c1
   have e:Rp.a5Z 10=[92,110]:=rfl
   rw[e]at h0 h1 hlen
   simp only[List.length_cons,List.length_nil]at hlen
   rw[part_n (by omega) (by rw[show q.getD i 0=92 from h0];decide) (by rw[show q.getD i 0=92 from h0];rfl) (by rw[show q.getD (i+1) 0=110 from h1];rfl),a3d r z (i+2) _ (fin 2 rfl) hok.2]
   rw[Rp.a3K,e];simp;congr 1;omega
  by_cases c2:b=9
  ·subst c2
   have e:Rp.a5Z 9=[92,116]:=rfl
   rw[e]at h0 h1 hlen
   simp only[List.length_cons,List.length_nil]at hlen
   rw[part_t (by omega) (by rw[show q.getD i 0=92 from h0];decide) (by rw[show q.getD i 0=92 from h0];rfl) (by rw[show q.getD (i+1) 0=116 from h1];rfl),a3d r z (i+2) _ (fin 2 rfl) hok.2]
   rw[Rp.a3K,e];simp;congr 1;omega
  by_cases c3:b=92
  ·subst c3
   have e:Rp.a5Z 92=[92,92]:=rfl
   rw[e]at h0 h1 hlen
   simp only[List.length_cons,List.length_nil]at hlen
   rw[b1k (by omega) (by rw[show q.getD i 0=92 from h0];decide) (by rw[show q.getD i 0=92 from h0];rfl) (.inl (by rw[show q.getD (i+1) 0=92 from h1];rfl)),a3d r z (i+2) _ (fin 2 rfl) hok.2,show q.getD (i+1) 0=92 from h1]
   rw[Rp.a3K,e];simp;congr 1;omega
  by_cases c4:b=34
  ·subst c4
   have e:Rp.a5Z 34=[92,34]:=rfl
   rw[e]at h0 h1 hlen
   simp only[List.length_cons,List.length_nil]at hlen
   rw[b1k (by omega) (by rw[show q.getD i 0=92 from h0];decide) (by rw[show q.getD i 0=92 from h0];rfl) (.inr (by rw[show q.getD (i+1) 0=34 from h1];rfl)),a3d r z (i+2) _ (fin 2 rfl) hok.2,show q.getD (i+1) 0=34 from h1]
   rw[Rp.a3K,e];simp;congr 1;omega
  have e:Rp.a5Z b=[b]:=by simp only[Rp.a5Z,if_neg c1,if_neg c2,if_neg c3,if_neg c4]
  rw[e]at h0 h1 hlen
  simp only[List.length_cons,List.length_nil]at hlen
  have hb:32<=b.toNat:=by
   have:=hok.1
   simp only[okB,Bool.or_eq_true,decide_eq_true_eq]at this
   rcases this with(h|h)|h
   ·exact h
   ·exact absurd (b8X h) c1
   ·exact absurd (b8X h) c2
  have h0:q.getD i 0=b:=h0
  rw[b7k (by omega) (by rw[h0];exact hb) (by rw[h0];intro h;exact c4 (b8X (n:=34) h)) (by rw[h0];intro h;exact c3 (b8X (n:=92) h)),a3d r z (i+1) _ (fin 1 (by rw[e];rfl)) hok.2,h0]
  rw[Rp.a3K,e];simp;congr 1;omega
theorem b7m {q:List UInt8}{o ins i:Nat}{r z text:List UInt8}(hd:q.drop i=Rp.esc r ++(34::z))(hok:r.all okB=true):part q o ins i text=.fin (text++r) (i+(Rp.esc r).length+1):=by
 have h2:q.drop (i+(Rp.esc r).length)=34::z:=a2p hd rfl
 have h0:q.getD (i+(Rp.esc r).length) 0=34:=by have:=getD_drop q (i+(Rp.esc r).length) 0;rw[h2]at this;exact this
 have hl:=b8o h2
 rw[a3d r _ i text hd hok,b5T (by omega) (by rw[h0];decide) (by rw[h0];rfl)]
theorem b5U {q:List UInt8}{o ins i:Nat}{r z text:List UInt8}(hd:q.drop i=Rp.esc r ++(92::40::z))(hok:r.all okB=true)(hi:ins<3):part q o ins i text=.more (text++r) (i+(Rp.esc r).length+2):=by
 have h2:q.drop (i+(Rp.esc r).length)=92::40::z:=a2p hd rfl
 have h0:q.getD (i+(Rp.esc r).length) 0=92:=by have:=getD_drop q (i+(Rp.esc r).length) 0;rw[h2]at this;exact this
 have h1:q.getD (i+(Rp.esc r).length+1) 0=40:=by have:=getD_drop q (i+(Rp.esc r).length) 1;rw[h2]at this;exact this
 have hl:=b8o h2
 rw[a3d r _ i text hd hok,b3E (by omega) (by rw[h0];decide) (by rw[h0];rfl) (by rw[h1];rfl) (by omega)]
def PT (ins:Nat)(text:List UInt8):PR->Prop
 | .err _ _=>True
 | .fin T _=>∃r,T=text++r/\r.all okB=true
 | .more T _=>ins<3 /\ ∃r,T=text++r/\r.all okB=true
theorem PT.snoc {ins:Nat}{text:List UInt8}{b:UInt8}{p:PR}(hb:okB b=true)(h:PT ins (text++[b]) p):PT ins text p:=by
 have aux:∀T,(∃r,T=text++[b]++r/\r.all okB=true) -> ∃r,T=text++r/\r.all okB=true:=by
  rintro T ⟨r,h1,h2⟩
  exact⟨b::r,by rw[h1];simp,by rw[List.all_cons,hb,h2];rfl⟩
 cases p with
 | err c a=>trivial
 | fin T e=>exact aux T h
 | more T e=>exact⟨h.1,aux T h.2⟩
theorem okB_ge {b:UInt8}(h:32<=b.toNat):okB b=true:=by simp only[okB,decide_eq_true h,Bool.true_or]
theorem b5R (q:List UInt8)(o ins:Nat):∀(f i:Nat) (text:List UInt8),PT ins text (a5G q o ins f i text)
 | 0,i,text=>trivial
 | f+1,i,text=>by
  have ih:=b5R q o ins f
  simp only[a5G]
  split
  ·trivial
  ·rename_i h1
   simp only[Bool.and_eq_true,decide_eq_true_eq]at h1
   split
   ·exact⟨[],by simp,rfl⟩
   ·split
    ·exact PT.snoc (okB_ge h1.2) (ih _ _)
    ·split
     ·exact PT.snoc (by decide) (ih _ _)
     ·split
      ·exact PT.snoc (by decide) (ih _ _)
      ·split
       ·rename_i h5
        simp only[Bool.or_eq_true,decide_eq_true_eq]at h5
        exact PT.snoc (okB_ge (by omega)) (ih _ _)
       ·split
        ·split
         ·trivial
         ·rename_i h7
          simp only[decide_eq_false_iff_not]at h7
          exact⟨by omega,[],by simp,rfl⟩
        ·trivial
theorem b7n (q:List UInt8)(o ins i:Nat)(text:List UInt8):PT ins text (part q o ins i text):=b5R q o ins _ i text
def spK (k:Int)(x:List UInt8):List UInt8 :=
 if k=4 then 34 ::(Rp.esc x++[34])else if k=5 then 34 ::(Rp.esc x++[92,40])else if k=6 then 41 ::(Rp.esc x++[92,40])else if k=7 then 41 ::(Rp.esc x++[34])else x
def b43 (b:Nat):List Int->Bool
 | []=>false
 | p::_=>decide (p=0)&&decide (b=41)
theorem b9u (b:Nat):∀st:List (Nat×Int),closes b st=b43 b (st.map Prod.snd)
 | []=>rfl
 |(q,p)::st=>rfl
def b3T (w:List UInt8):List Int->List Int
 | []=>[]
 | p::r=>match decide (w=[40])with
  | true=>(p+1)::r
  | false=>match decide (w=[41])with
   | true=>(p-1)::r
   | false=>p::r
theorem c1j (w:List UInt8):∀st:List (Nat×Int),(bump w st).map Prod.snd=b3T w (st.map Prod.snd)
 | []=>rfl
 |(q,p)::st=>by
  simp only[bump,List.map_cons,b3T]
  cases decide (w=[40])with
  | true=>rfl
  | false=>cases decide (w=[41])<;>rfl
inductive TS:List Int->Int->List UInt8->List Int->Prop
 | tail (x:List UInt8) (st:List Int) (h:x.all okB=true):TS (0::st) 7 x st
 | mid (x:List UInt8) (st:List Int) (h:x.all okB=true) (h2:st.length<3):TS (0::st) 6 x (0::st)
 | text (x:List UInt8) (st:List Int) (h:x.all okB=true):TS st 4 x st
 | head (x:List UInt8) (st:List Int) (h:x.all okB=true) (h2:st.length<3):TS st 5 x (0::st)
 | int (w:List UInt8) (st:List Int) (h:w ≠ []) (h1:w.all U8=true) (h2:∀c,a0I c=false->a0H w c=false):TS st 3 w st
 | name (w:List UInt8) (st:List Int) (h:w ≠ []) (h0:a0I (w.headD 0)=true) (h1:w.all a19=true) (h2:ltB 24 (w.length:Nat)=false):TS st (a3L w) w st
 | sign (w:List UInt8) (st:List Int) (h:a7v a0N w=true) (h1:b43 (w.headD 0).toNat st=false):TS st 8 w (b3T w st)
theorem b56 (p:UInt8->Bool)(s:List UInt8)(i:Nat):(s.take (a0K p s i)).drop i =(s.drop i).takeWhile p:=by
 rw[List.drop_take]
 have h:a0K p s i-i =((s.drop i).takeWhile p).length:=by unfold a0K;omega
 rw[h]
 exact(List.prefix_iff_eq_take.1 (List.takeWhile_prefix p)).symm
theorem c3E {toks:List Tok}{st:List (Nat×Int)}{q j:Nat}{a b:Int}{r:PR}{y:MS}(h:a1H toks st q j a b r=.go y) :
  (∃T e,r=.fin T e/\y =⟨e,toks++[⟨a,T,j,e-j⟩],st⟩)∨(∃T e,r=.more T e/\y =⟨e,toks++[⟨b,T,j,e-j⟩],(q,0)::st⟩):=by
 cases r with
 | err c a=>cases h
 | fin T e=>cases h;exact .inl ⟨_,_,rfl,rfl⟩
 | more T e=>cases h;exact .inr ⟨_,_,rfl,rfl⟩
theorem c5s {s:List UInt8}{i:Nat}{w:List UInt8}(h:a1W s i 2=w)(hw:w ≠ [])(hi:i<s.length):a7v a0N w=true/\w.headD 0=s.getD i 0:=by
 refine⟨?_,?_⟩
 ·simp only[a1W]at h
  split at h
  ·rename_i hx
   simp only[Bool.and_eq_true]at hx
   rw[<-h];exact hx.2
  ·split at h
   ·rename_i hx
    simp only[Bool.and_eq_true]at hx
    rw[<-h];exact hx.2
   ·exact absurd h.symm hw
 ·have e:=signK_eq h hi
  rw[List.drop_take,a2J hi]at e
  cases w with
  | nil=>exact absurd rfl hw
  | cons b w =>
   rw[show i+(b::w).length-i=w.length+1 by simp]at e
   rw[List.take_succ_cons]at e
   exact(List.cons.inj e).1
theorem b3L {s:List UInt8}{x y:MS}(h:stepM s x=.go y):∃t:Tok,y.toks=x.toks++[t]/\x.toks.length<3000/\TS (x.st.map Prod.snd) t.k t.t (y.st.map Prod.snd):=by
 obtain⟨i0,toks,st⟩:=x
 obtain⟨i,h0⟩:∃i,a0E s i0=i:=⟨_,rfl⟩
 rcases Nat.lt_or_ge i s.length with hi|hi
 ·cases hc:closes (s.getD i 0).toNat st with
  | true =>
   cases st with
   | nil=>cases hc
   | cons z st =>
    obtain⟨q,p⟩:=z
    obtain⟨rfl,e⟩:=a14 (toks:=toks) h0 hi hc
    rw[e]at h
    obtain⟨hr,h⟩:=a00 h
    have hp:=b7n s q st.length (i+1) []
    rcases c3E h with⟨T,e,h1,rfl⟩ |⟨T,e,h1,rfl⟩
    ·rw[h1]at hp
     obtain⟨r,h2,h3⟩:=hp
     rw[List.nil_append]at h2;subst h2
     exact⟨_,rfl,hr,.tail _ _ h3⟩
    ·rw[h1]at hp
     obtain⟨h4,r,h2,h3⟩:=hp
     rw[List.nil_append]at h2;subst h2
     exact⟨_,rfl,hr,.mid _ _ h3 (by rw[List.length_map];exact h4)⟩
  | false =>
   by_cases h1:(s.getD i 0).toNat=34
   ·rw[a3x h0 hi hc h1]at h
    obtain⟨hr,h⟩:=a00 h
    have hp:=b7n s i st.length (i+1) []
    rcases c3E h with⟨T,e,h1,rfl⟩ |⟨T,e,h1,rfl⟩
    ·rw[h1]at hp
     obtain⟨r,h2,h3⟩:=hp
     rw[List.nil_append]at h2;subst h2
     exact⟨_,rfl,hr,.text _ _ h3⟩
    ·rw[h1]at hp
     obtain⟨h4,r,h2,h3⟩:=hp
     rw[List.nil_append]at h2;subst h2
     exact⟨_,rfl,hr,.head _ _ h3 (by rw[List.length_map];exact h4)⟩
   ·cases h2:U8 (s.getD i 0)with
    | true =>
     rw[a2H h0 hi hc h1 h2,b56]at h
     obtain⟨hr,h⟩:=a00 h
     split at h
     ·cases h
     ·rename_i hb
      cases h
      refine⟨_,rfl,hr,.int _ _ ?_ List.all_takeWhile ?_⟩
      ·rw[a2J hi,List.takeWhile_cons,h2];simp
      ·intro c hc
       rw[bad_eq]at hb ⊢
       rw[Bool.or_eq_false_iff]at hb ⊢
       exact⟨hb.1,hc⟩
    | false =>
     cases h3:a0I (s.getD i 0)with
     | true =>
      rw[a15 h0 hi hc h1 h2 h3,b56]at h
      obtain⟨hr,h⟩:=a00 h
      split at h
      ·cases h
      ·rename_i hb
       cases h
       have hn:a19 (s.getD i 0)=true:=by simp only[a19,h3,Bool.true_or]
       refine⟨_,rfl,hr,.name _ _ ?_ ?_ List.all_takeWhile hb⟩
       ·rw[a2J hi,List.takeWhile_cons,hn];simp
       ·rw[a2J hi,List.takeWhile_cons,hn];exact h3
     | false =>
      cases hw:a1W s i 2 with
      | nil=>rw[a4E h0 hi hc h1 h2 h3 hw]at h;cases h
      | cons b w =>
       rw[a1O h0 hi hc h1 h2 h3 hw (by simp)]at h
       obtain⟨hr,h⟩:=a00 h
       cases h
       obtain⟨k1,k2⟩:=c5s hw (by simp) hi
       refine⟨_,rfl,hr,?_⟩
       show TS (st.map Prod.snd) 8 (b::w) ((bump (b::w) st).map Prod.snd)
       rw[c1j]
       exact .sign _ _ k1 (by rw[k2,<-b9u];exact hc)
 ·cases st with
  | nil=>rw[a3W h0 hi]at h;cases h
  | cons z st=>obtain⟨q,p⟩:=z;rw[a4G h0 hi]at h;cases h
theorem a4u {toks:List Tok}{j:Nat}{r:MR}(h:toks.length<3000):roomy toks j r=r:=b24 (by simp only[leB,decide_eq_false_iff_not];omega)
theorem a4v {u:List UInt8}{e:Nat}{pre r:List UInt8}{b:UInt8}(hd:u.drop e=pre ++(b::r))(hp:pre=[]∨pre=[32])(hb:a4Y b=false)(hc:b.toNat≠47∨(r.headD 0).toNat≠47) :
  a0E u e=e+pre.length/\e+pre.length<u.length/\u.drop (e+pre.length)=b::r/\u.getD (e+pre.length) 0=b:=by
 have h2:u.drop (e+pre.length)=b::r:=a2p hd rfl
 have hl:=b8o h2
 have h0:u.getD (e+pre.length) 0=b:=by have:=getD_drop u (e+pre.length) 0;rw[h2]at this;exact this
 have h1:u.getD (e+pre.length+1) 0=r.headD 0:=by
  have:=getD_drop u (e+pre.length) 1
  rw[h2]at this
  rw[this];cases r<;>rfl
 have hs:a0E u (e+pre.length)=e+pre.length:=b6d (by omega) (by rw[h0];exact hb) (by rw[h0,h1];exact hc)
 refine⟨?_,by omega,h2,h0⟩
 rcases hp with rfl|rfl
 ·exact hs
 ·have hb0:u.getD e 0=32:=by have:=getD_drop u e 0;rw[hd]at this;exact this
  have hle:e<u.length:=by simp only[List.length_cons,List.length_nil]at hl;omega
  rw[b4i hle (by rw[hb0];decide)]
  exact hs
def sgnP (w:List UInt8):Bool:=(decide (w.length=1)||decide (w.length=2))&&(!a4Y (w.headD 0)&&(!decide ((w.headD 0).toNat=34)&&(!U8 (w.headD 0)&&(!a0I (w.headD 0)&&(decide ((w.headD 0).toNat≠47)||decide (w.length=1))))))
theorem c5t:a0N.all sgnP=true:=by decide
theorem sign_P {w:List UInt8}(h:a7v a0N w=true):sgnP w=true:=by
 simp only[a7v,List.any_eq_true,decide_eq_true_eq]at h
 obtain⟨y,h1,rfl⟩:=h
 exact List.all_eq_true.1 c5t y h1
def TL (t:List UInt8):Prop:=t=[] ∨ ∃c r,t=c::r/\(c=32∨c=40∨c=41)
theorem no32 (b:UInt8){c:UInt8}(hc:c=32∨c=40∨c=41):a7v a0N [b,c]=false:=by rcases hc with rfl|rfl|rfl<;>simp[a7v,a0N]
theorem c0D {u:List UInt8}{i:Nat}{w tl:List UInt8}(hd:u.drop i=w++tl)(hw:a7v a0N w=true)(ht:TL tl):a1W u i 2=w:=by
 have hP:=sign_P hw
 simp only[sgnP,Bool.and_eq_true,Bool.or_eq_true,decide_eq_true_eq]at hP
 have hlen:=congrArg List.length hd
 rw[List.length_drop,List.length_append]at hlen
 match w,hP with
 | [b],_ =>
  simp only[List.length_cons,List.length_nil]at hlen
  have e1:(u.take (i+1)).drop i=[b]:=by rw[List.drop_take,hd,show i+1-i=1 by omega];rfl
  have l1:leB ((i+1:Nat):Int) u.length=true:=by simp only[leB,decide_eq_true_eq];omega
  have e2:(leB ((i+(1+1):Nat):Int) u.length&&a7v a0N ((u.take (i+(1+1))).drop i))=false:=by
   rcases ht with rfl |⟨c,r,rfl,hc⟩
   ·have:leB ((i+(1+1):Nat):Int) u.length=false:=by simp only[leB,decide_eq_false_iff_not];simp only[List.length_nil]at hlen;omega
    rw[this];rfl
   ·have:(u.take (i+(1+1))).drop i=[b,c]:=by rw[List.drop_take,hd,show i+(1+1)-i=2 by omega];rfl
    rw[this,no32 b hc,Bool.and_false]
  simp only[a1W,e2]
  simp only[Nat.zero_add,e1,l1,hw,Bool.and_self]
 | [b,c],_ =>
  simp only[List.length_cons,List.length_nil]at hlen
  have e2:(u.take (i+(1+1))).drop i=[b,c]:=by rw[List.drop_take,hd,show i+(1+1)-i=2 by omega];rfl
  have l2:leB ((i+(1+1):Nat):Int) u.length=true:=by simp only[leB,decide_eq_true_eq];omega
  simp only[a1W,e2,l2,hw,Bool.and_self]
 | [],hP=>simp at hP
 | _::_::_::_,hP=>simp at hP
theorem c4m {p:UInt8->Bool}{tl:List UInt8}(ht:p (tl.headD 0)=false∨tl=[]):∀{w:List UInt8},w.all p=true ->(w++tl).takeWhile p=w
 | [],_=>by
  cases tl with
  | nil=>rfl
  | cons c tl =>
   rcases ht with h|h
   ·rw[List.nil_append,List.takeWhile_cons]
    have h:p c=false:=h
    rw[h];rfl
   ·cases h
 | b::w,h=>by
  rw[List.all_cons,Bool.and_eq_true]at h
  rw[List.cons_append,List.takeWhile_cons,h.1,if_pos rfl,c4m ht h.2]
theorem run_at {p:UInt8->Bool}{u:List UInt8}{i:Nat}{w tl:List UInt8}(hd:u.drop i=w++tl)(ht:p (tl.headD 0)=false∨tl=[])(hw:w.all p=true):a0K p u i=i+w.length/\(u.take (a0K p u i)).drop i=w/\u.getD (a0K p u i) 0=tl.headD 0:=by
 have h1:=c4m ht hw
 have h2:a0K p u i=i+w.length:=by unfold a0K;rw[hd,h1]
 refine⟨h2,by rw[b56,hd,h1],?_⟩
 have:=getD_drop u (i+w.length) 0
 rw[a2p hd rfl,Nat.add_zero]at this
 rw[h2,this];cases tl<;>rfl
theorem spK_name (w:List UInt8):spK (a3L w) w=w:=by
 unfold a3L
 split
 ·rfl
 ·split<;>rfl
theorem step_of {u:List UInt8}{e:Nat}{pre tl:List UInt8}{toks:List Tok}{st:List (Nat×Int)}{k:Int}{x:List UInt8}{ps:List Int}(hd:u.drop e=pre ++(spK k x++tl))(hp:pre=[]∨pre=[32])(ht:TL tl)(hT:TS (st.map Prod.snd) k x ps)(hr:toks.length<3000) :
  ∃y,stepM u ⟨e,toks,st⟩=.go y/\(∃a l,y.toks=toks++[⟨k,x,a,l⟩])/\y.i=e+pre.length+(spK k x).length/\y.st.map Prod.snd=ps:=by
 have ht2:∀p:UInt8->Bool,p 32=false->p 40=false->p 41=false->p (tl.headD 0)=false∨tl=[]:=fun p hp hp2 hp3=>by
  rcases ht with rfl |⟨c,r,rfl,rfl|rfl|rfl⟩
  ·exact .inr rfl
  ·exact .inl hp
  ·exact .inl hp2
  ·exact .inl hp3
 generalize hs:st.map Prod.snd=S at hT
 cases hT with
 | tail x ps h =>
  cases st with
  | nil=>cases hs
  | cons z st =>
   obtain⟨q,p⟩:=z
   simp only[List.map_cons,List.cons.injEq]at hs
   obtain⟨rfl,rfl⟩:=hs
   have es:spK 7 x=41 ::(Rp.esc x++[34]):=rfl
   rw[es,List.cons_append]at hd
   obtain⟨h0,hi,h2,h3⟩:=a4v hd hp (by decide) (.inl (by decide))
   obtain⟨-,e1⟩:=a14 (toks:=toks) (st:=st) (q:=q) (p:=0) h0 hi (by rw[h3];rfl)
   have hd2:u.drop (e+pre.length+1)=Rp.esc x ++(34::tl):=by rw[a2p (a:=[41]) (k:=1) h2 rfl];simp
   rw[e1,a4u hr,b7m hd2 h]
   refine⟨_,rfl,⟨_,_,rfl⟩,?_,rfl⟩
   rw[es];simp;omega
 | mid x ps h h5 =>
  cases st with
  | nil=>cases hs
  | cons z st =>
   obtain⟨q,p⟩:=z
   simp only[List.map_cons,List.cons.injEq]at hs
   obtain⟨rfl,rfl⟩:=hs
   have es:spK 6 x=41 ::(Rp.esc x++[92,40]):=rfl
   rw[es,List.cons_append]at hd
   obtain⟨h0,hi,h2,h3⟩:=a4v hd hp (by decide) (.inl (by decide))
   obtain⟨-,e1⟩:=a14 (toks:=toks) (st:=st) (q:=q) (p:=0) h0 hi (by rw[h3];rfl)
   have hd2:u.drop (e+pre.length+1)=Rp.esc x ++(92::40::tl):=by rw[a2p (a:=[41]) (k:=1) h2 rfl];simp
   rw[List.length_map]at h5
   rw[e1,a4u hr,b5U hd2 h h5]
   refine⟨_,rfl,⟨_,_,rfl⟩,?_,rfl⟩
   rw[es];simp;omega
 | text x ps h =>
  subst hs
  have es:spK 4 x=34 ::(Rp.esc x++[34]):=rfl
  rw[es,List.cons_append]at hd
  obtain⟨h0,hi,h2,h3⟩:=a4v hd hp (by decide) (.inl (by decide))
  have hd2:u.drop (e+pre.length+1)=Rp.esc x ++(34::tl):=by rw[a2p (a:=[34]) (k:=1) h2 rfl];simp
  rw[a3x h0 hi (by rw[h3];exact a4I (by decide)) (by rw[h3];rfl),a4u hr,b7m hd2 h]
  refine⟨_,rfl,⟨_,_,rfl⟩,?_,rfl⟩
  rw[es];simp;omega
 | head x ps h h5 =>
  subst hs
  have es:spK 5 x=34 ::(Rp.esc x++[92,40]):=rfl
  rw[es,List.cons_append]at hd
  obtain⟨h0,hi,h2,h3⟩:=a4v hd hp (by decide) (.inl (by decide))
  have hd2:u.drop (e+pre.length+1)=Rp.esc x ++(92::40::tl):=by rw[a2p (a:=[34]) (k:=1) h2 rfl];simp
  rw[List.length_map]at h5
  rw[a3x h0 hi (by rw[h3];exact a4I (by decide)) (by rw[h3];rfl),a4u hr,b5U hd2 h h5]
  refine⟨_,rfl,⟨_,_,rfl⟩,?_,rfl⟩
  rw[es];simp;omega
 | int w ps h h1 h2 =>
  subst hs
  have es:spK 3 x=x:=rfl
  rw[es]at hd ⊢
  cases x with
  | nil=>exact absurd rfl h
  | cons b w =>
  have hb:U8 b=true:=by rw[List.all_cons,Bool.and_eq_true]at h1;exact h1.1
  have hb2:=hb
  simp only[U8,decide_eq_true_eq]at hb2
  rw[List.cons_append]at hd
  obtain⟨h0,hi,h3,h4⟩:=a4v hd hp (by simp only[a4Y,decide_eq_false_iff_not];omega) (.inl (by omega))
  have h5:u.drop (e+pre.length) =(b::w)++tl:=h3
  obtain⟨r1,r2,r3⟩:=run_at h5 (ht2 U8 (by decide) (by decide) (by decide)) h1
  rw[a2H h0 hi (by rw[h4];exact a4I (by omega)) (by rw[h4];omega) (by rw[h4];exact hb),a4u hr,r2,r3,h2 _ (by rcases ht with rfl |⟨c,r,rfl,rfl|rfl|rfl⟩<;>rfl)]
  refine⟨_,rfl,⟨_,_,rfl⟩,?_,rfl⟩
  exact r1
 | name w ps h h6 h1 h2 =>
  subst hs
  rw[spK_name]at hd ⊢
  cases x with
  | nil=>exact absurd rfl h
  | cons b w =>
  have hb:a0I b=true:=h6
  have hb2:=hb
  simp only[a0I,decide_eq_true_eq]at hb2
  rw[List.cons_append]at hd
  obtain⟨h0,hi,h3,h4⟩:=a4v hd hp (by simp only[a4Y,decide_eq_false_iff_not];omega) (.inl (by omega))
  have h5:u.drop (e+pre.length) =(b::w)++tl:=h3
  obtain⟨r1,r2,r3⟩:=run_at h5 (ht2 a19 (by decide) (by decide) (by decide)) h1
  rw[a15 h0 hi (by rw[h4];exact a4I (by omega)) (by rw[h4];omega) (by rw[h4];simp only[U8,decide_eq_false_iff_not];omega) (by rw[h4];exact hb),a4u hr,r2,h2]
  refine⟨_,rfl,⟨_,_,rfl⟩,?_,rfl⟩
  exact r1
 | sign w ps h h1 =>
  subst hs
  have es:spK 8 x=x:=rfl
  rw[es]at hd ⊢
  have hP:=sign_P h
  cases x with
  | nil=>exact absurd hP (by decide)
  | cons b w =>
  simp only[sgnP,List.headD_cons,Bool.and_eq_true,Bool.or_eq_true,Bool.not_eq_true',decide_eq_true_eq,decide_eq_false_iff_not]at hP
  obtain⟨p1,p2,p3,p4,p5,p6⟩:=hP
  rw[List.cons_append]at hd
  obtain⟨h0,hi,h3,h4⟩:=a4v hd hp p2 (by
   rcases p6 with p6|p6
   ·exact .inl (of_decide_eq_true p6)
   ·right
    cases w with
    | nil =>
     rcases ht with rfl |⟨c,r,rfl,rfl|rfl|rfl⟩
     ·decide
     ·show(32:UInt8).toNat≠47
      decide
     ·show(40:UInt8).toNat≠47
      decide
     ·show(41:UInt8).toNat≠47
      decide
    | cons c w=>simp at p6)
  have h5:u.drop (e+pre.length) =(b::w)++tl:=h3
  rw[a1O (w:=b::w) h0 hi (by rw[h4,b9u];exact h1) (by rw[h4];exact of_decide_eq_false p3) (by rw[h4];exact p4) (by rw[h4];exact p5) (c0D h5 h ht) (by simp),a4u hr]
  refine⟨_,rfl,⟨_,_,rfl⟩,rfl,?_⟩
  exact c1j _ _
def KT (l:List Tok):List (Int×List UInt8):=l.map fun t=>(t.k,t.t)
def TQ (k:Int)(x t:List UInt8):Prop:=TL t∨k=8/\x=[40]
theorem noOpen (c:UInt8):a7v a0N [40,c]=false:=by simp[a7v,a0N]
theorem c2E {u:List UInt8}{i:Nat}{tl:List UInt8}(hd:u.drop i=40::tl):a1W u i 2=[40]:=by
 cases tl with
 | nil=>exact c0D (w:=[40]) (tl:=[]) hd (by decide) (.inl rfl)
 | cons c r =>
  have hlen:=congrArg List.length hd
  rw[List.length_drop,List.length_cons,List.length_cons]at hlen
  have e1:(u.take (i+1)).drop i=[40]:=by rw[List.drop_take,hd,show i+1-i=1 by omega];rfl
  have l1:leB ((i+1:Nat):Int) u.length=true:=by simp only[leB,decide_eq_true_eq];omega
  have e2:(leB ((i+(1+1):Nat):Int) u.length&&a7v a0N ((u.take (i+(1+1))).drop i))=false:=by
   have:(u.take (i+(1+1))).drop i=[40,c]:=by rw[List.drop_take,hd,show i+(1+1)-i=2 by omega];rfl
   rw[this,noOpen,Bool.and_false]
  simp only[a1W,e2]
  simp only[Nat.zero_add,e1,l1,show a7v a0N [40]=true by decide,Bool.and_self]
theorem b8W {S S':List Int}{k:Int}{x:List UInt8}(h:TS S k x S')(hk:k=8):S'=b3T x S:=by
 cases h with
 | sign _ _ _ _=>rfl
 | name _ _ _ _ _ _ =>
  exfalso
  revert hk
  unfold a3L
  split
  ·omega
  ·split<;>omega
 | _=>omega
theorem b6h {u:List UInt8}{e:Nat}{pre tl:List UInt8}{toks:List Tok}{st:List (Nat×Int)}{k:Int}{x:List UInt8}{ps:List Int}(hd:u.drop e=pre ++(spK k x++tl))(hp:pre=[]∨pre=[32])(ht:TQ k x tl)(hT:TS (st.map Prod.snd) k x ps)(hr:toks.length<3000) :
  ∃y,stepM u ⟨e,toks,st⟩=.go y/\(∃a l,y.toks=toks++[⟨k,x,a,l⟩])/\y.i=e+pre.length+(spK k x).length/\y.st.map Prod.snd=ps:=by
 rcases ht with ht |⟨rfl,rfl⟩
 ·exact step_of hd hp ht hT hr
 ·rw[b8W hT rfl]
  have hd:u.drop e=pre ++(40::tl):=hd
  obtain⟨h0,hi,h3,h4⟩:=a4v hd hp (by decide) (.inl (by decide))
  rw[a1O (w:=[40]) h0 hi (by rw[h4];exact a4I (by decide)) (by rw[h4];decide) (by rw[h4];decide) (by rw[h4];decide) (c2E h3) (by simp),a4u hr]
  refine⟨_,rfl,⟨_,_,rfl⟩,rfl,?_⟩
  show(bump [40] st).map Prod.snd=_
  exact c1j [40] st
inductive TP:List Int->Int->List UInt8->List Int->Prop
 | of {S:List Int} {k:Int} {x:List UInt8} {S':List Int} (h:TS S k x S'):TP S k x S'
 | mid (x:List UInt8) (st:List Int) (h:x.all okB=true):TP (0::st) 6 x (0::st)
 | head (x:List UInt8) (st:List Int) (h:x.all okB=true):TP st 5 x (0::st)
theorem b5S {q:List UInt8}{o ins i:Nat}{r z text:List UInt8}(hd:q.drop i=Rp.esc r ++(92::40::z))(hok:r.all okB=true)(hi:3<=ins):∃c a,part q o ins i text=.err c a:=by
 have h2:q.drop (i+(Rp.esc r).length)=92::40::z:=a2p hd rfl
 have h0:q.getD (i+(Rp.esc r).length) 0=92:=by have:=getD_drop q (i+(Rp.esc r).length) 0;rw[h2]at this;exact this
 have h1:q.getD (i+(Rp.esc r).length+1) 0=40:=by have:=getD_drop q (i+(Rp.esc r).length) 1;rw[h2]at this;exact this
 have hl:=b8o h2
 rw[a3d r _ i text hd hok,b7l (by omega) (by rw[h0];decide) (by rw[h0];rfl) (by rw[h1];rfl) hi]
 exact⟨_,_,rfl⟩
theorem b7x {u:List UInt8}{e:Nat}{pre tl:List UInt8}{toks:List Tok}{st:List (Nat×Int)}{k:Int}{x:List UInt8}{ps:List Int}{y:MS}(hd:u.drop e=pre ++(spK k x++tl))(hp:pre=[]∨pre=[32])(ht:TQ k x tl)(hT:TP (st.map Prod.snd) k x ps)(hy:stepM u ⟨e,toks,st⟩=.go y) :
  (∃a l,y.toks=toks++[⟨k,x,a,l⟩])/\y.i=e+pre.length+(spK k x).length/\y.st.map Prod.snd=ps:=by
 obtain⟨_,_,hr,_⟩:=b3L hy
 simp only at hr
 have go:TS (st.map Prod.snd) k x ps ->(∃a l,y.toks=toks++[⟨k,x,a,l⟩])/\y.i=e+pre.length+(spK k x).length/\y.st.map Prod.snd=ps:=fun h=>by
  obtain⟨y',e1,e2⟩:=b6h (toks:=toks) hd hp ht h hr
  rw[hy]at e1
  cases e1
  exact e2
 generalize hs:st.map Prod.snd=S at hT
 cases hT with
 | of h=>rw[<-hs]at h;exact go h
 | mid x S h =>
  cases st with
  | nil=>cases hs
  | cons z st =>
   obtain⟨q,p⟩:=z
   simp only[List.map_cons,List.cons.injEq]at hs
   obtain⟨rfl,rfl⟩:=hs
   rcases Nat.lt_or_ge st.length 3 with h5|h5
   ·exact go (.mid x _ h (by rw[List.length_map];exact h5))
   ·exfalso
    have es:spK 6 x=41 ::(Rp.esc x++[92,40]):=rfl
    rw[es,List.cons_append]at hd
    obtain⟨h0,hi,h2,h3⟩:=a4v hd hp (by decide) (.inl (by decide))
    obtain⟨-,e1⟩:=a14 (toks:=toks) (st:=st) (q:=q) (p:=0) h0 hi (by rw[h3];rfl)
    have hd2:u.drop (e+pre.length+1)=Rp.esc x ++(92::40::tl):=by rw[a2p (a:=[41]) (k:=1) h2 rfl];simp
    obtain⟨c,a,ep⟩:=b5S (o:=q) (text:=[]) hd2 h h5
    rw[e1,a4u hr,ep]at hy
    cases hy
 | head x S h =>
  subst hs
  rcases Nat.lt_or_ge st.length 3 with h5|h5
  ·exact go (.head x _ h (by rw[List.length_map];exact h5))
  ·exfalso
   have es:spK 5 x=34 ::(Rp.esc x++[92,40]):=rfl
   rw[es,List.cons_append]at hd
   obtain⟨h0,hi,h2,h3⟩:=a4v hd hp (by decide) (.inl (by decide))
   have hd2:u.drop (e+pre.length+1)=Rp.esc x ++(92::40::tl):=by rw[a2p (a:=[34]) (k:=1) h2 rfl];simp
   obtain⟨c,a,ep⟩:=b5S (o:=e+pre.length) (text:=[]) hd2 h h5
   rw[a3x h0 hi (by rw[h3];exact a4I (by decide)) (by rw[h3];rfl),a4u hr,ep]at hy
   cases hy
theorem c4n {u:List UInt8}{e:Nat}{pre tl:List UInt8}{k:Int}{x:List UInt8}{S S':List Int}(hd:u.drop e=pre ++(spK k x++tl))(hp:pre=[]∨pre=[32])(ht:TQ k x tl)(hT:TP S k x S'):a0E u e<u.length:=by
 have go:∀{S S':List Int},TS S k x S'->a0E u e<u.length:=fun{S S'} h=>by
  have hm:(S.map fun p=>((0:Nat),p)).map Prod.snd=S:=by rw[List.map_map];exact List.map_id' S
  obtain⟨y,e1,_⟩:=b6h (toks:=[]) (st:=S.map fun p=>((0:Nat),p)) hd hp ht (by rw[hm];exact h) (by simp)
  obtain⟨t,_,e2,e3,_⟩:=b6g e1
  rw[<-e2];exact e3
 cases hT with
 | of h=>exact go h
 | mid x S h=>exact go (.mid x [] h (by simp))
 | head x S h=>exact go (.head x [] h (by simp))
inductive Ch:List Int->List (Int×List UInt8)->List Int->Prop
 | nil (S:List Int):Ch S [] S
 | cons {S S1 S2:List Int} {p:Int×List UInt8} {r:List (Int×List UInt8)}:TP S p.1 p.2 S1->Ch S1 r S2->Ch S (p::r) S2
theorem Ch.app {S S1 S2:List Int}{a b:List (Int×List UInt8)}(h:Ch S a S1)(g:Ch S1 b S2):Ch S (a++b) S2:=by
 induction h with
 | nil S=>exact g
 | cons h1 _ ih=>exact .cons h1 (ih g)
inductive Cs:List Int->List (Int×List UInt8)->List Int->Prop
 | nil (S:List Int):Cs S [] S
 | cons {S S1 S2:List Int} {p:Int×List UInt8} {r:List (Int×List UInt8)}:TS S p.1 p.2 S1->Cs S1 r S2->Cs S (p::r) S2
inductive Ly:List (Int×List UInt8)->List UInt8->Prop
 | nil:Ly [] []
 | cons {p:Int×List UInt8} {r:List (Int×List UInt8)} {pre t:List UInt8}:(pre=[]∨pre=[32])->TQ p.1 p.2 t->Ly r t->Ly (p::r) (pre ++(spK p.1 p.2++t))
def spW (l:List (Int×List UInt8)):List UInt8:=[32].intercalate (l.map fun p=>spK p.1 p.2)
theorem b6f (p:Int×List UInt8)(l:List (Int×List UInt8)):spW (p::l)=spK p.1 p.2 ++(match l with | []=>[]|_::_=>32::spW l):=by
 cases l with
 | nil=>simp[spW,List.intercalate]
 | cons u l=>simp[spW,List.intercalate]
theorem ly_sp {b:List (Int×List UInt8)}{t:List UInt8}(hb:Ly b t)(ht:TL t):∀(ws:List (Int×List UInt8)) (pre:List UInt8),(pre=[]∨pre=[32])->ws ≠ []->Ly (ws++b) (pre ++(spW ws++t))
 | [],_,_,h=>absurd rfl h
 | [p],pre,hp,_=>by
  have e:spW [p]=spK p.1 p.2:=by rw[b6f];simp
  rw[e]
  exact .cons hp (.inl ht) hb
 | p::q::r,pre,hp,_=>by
  rw[b6f,List.append_assoc]
  exact .cons hp (.inl (.inr ⟨32,_,rfl,.inl rfl⟩)) (ly_sp hb ht (q::r) [32] (.inr rfl) (by simp))
theorem walk {u:List UInt8}{x z:MS}{l:List Tok}(h:Reach u x z)(hz:stepM u z=.done l):∀(ws:List (Int×List UInt8)) (S:List Int),Ch (x.st.map Prod.snd) ws S->Ly ws (u.drop x.i)->KT z.toks=KT x.toks++ws:=by
 induction h with
 | refl x =>
  intro ws S hc hd
  cases hc with
  | nil=>simp
  | @cons _ S1 _ p r h1 h2 =>
   exfalso
   generalize ht:u.drop x.i=t at hd
   cases hd with
   | cons hp ht2 hr =>
    have:=c4n ht hp ht2 h1
    have:=(a4F hz).2
    omega
 | step x y z h1 h2 ih =>
  intro ws S hc hd
  cases hc with
  | nil =>
   exfalso
   obtain⟨t,_,e2,e3,_⟩:=b6g h1
   generalize ht:u.drop x.i=t at hd
   cases hd
   have hl:u.length<=x.i:=by simpa using ht
   rw[b3J hl]at e2
   omega
  | @cons _ S1 _ p r k1 k2 =>
   generalize ht:u.drop x.i=t at hd
   cases hd with
   | @cons _ _ pre t hp ht2 hr =>
   obtain⟨i',toks',st'⟩:=x
   obtain⟨⟨a,b,g1⟩,g2,g3⟩:=b7x (toks:=toks') ht hp ht2 k1 h1
   rw[<-g3]at k2
   rw[ih hz r S k2 (by
    simp only at ht
    rw[g2,<-List.drop_drop,<-List.drop_drop,ht,List.drop_left,List.drop_left]
    exact hr),g1]
   simp[KT]
theorem walk2 {u:List UInt8}{x z:MS}{l:List Tok}(h:Reach u x z)(hz:stepM u z=.done l):∀(a b:List (Int×List UInt8)) (S1 S2:List Int),Ch (x.st.map Prod.snd) a S1->Ch S1 b S2->Ly (a++b) (u.drop x.i)->Cs (x.st.map Prod.snd) a S1:=by
 induction h with
 | refl x =>
  intro a b S1 S2 hc hc2 hd
  cases hc with
  | nil=>exact .nil _
  | @cons _ S1 _ p r h1 h2 =>
   exfalso
   generalize ht:u.drop x.i=t at hd
   cases hd with
   | cons hp ht2 hr =>
    have:=c4n ht hp ht2 h1
    have:=(a4F hz).2
    omega
 | step x y z h1 h2 ih =>
  intro a b S1 S2 hc hc2 hd
  cases hc with
  | nil=>exact .nil _
  | @cons _ S3 _ p r k1 k2 =>
   generalize ht:u.drop x.i=t at hd
   cases hd with
   | @cons _ _ pre t hp ht2 hr =>
   obtain⟨i',toks',st'⟩:=x
   obtain⟨⟨a',b',g1⟩,g2,g3⟩:=b7x (toks:=toks') ht hp ht2 k1 h1
   obtain⟨t',e1,_,e3⟩:=b3L h1
   rw[g1]at e1
   simp only[List.append_cancel_left_eq,List.cons.injEq,and_true]at e1
   rw[<-e1,g3]at e3
   refine .cons e3 ?_
   rw[<-g3]at k2 ⊢
   exact ih hz r b S1 S2 k2 hc2 (by
    simp only at ht
    rw[g2,<-List.drop_drop,<-List.drop_drop,ht,List.drop_left,List.drop_left]
    exact hr)
theorem said {u:List UInt8}{a b:List (Int×List UInt8)}{S S2:List Int}{l:List Tok}(hc:Ch [] a S)(hc2:Ch S b S2)(hy:Ly (a++b) u)(h8:u.length<=8000)(h:a1r u=.done l):KT l=a++b/\Cs [] a S:=by
 have he:=(a6n u).2.2 h8
 rw[h]at he
 obtain⟨z,h1,h2,_⟩:=he
 have e1:=walk h1 h2 (a++b) S2 (hc.app hc2) hy
 rw[(a4F h2).1]at e1
 exact⟨by simpa [KT]using e1,walk2 h1 h2 a b S S2 hc hc2 hy⟩
theorem b9w {u:List UInt8}:∀(ws:List (Int×List UInt8)) (e:Nat) (toks:List Tok) (st:List (Nat×Int)) (S:List Int),Cs (st.map Prod.snd) ws S->Ly ws (u.drop e)->toks.length+ws.length<=3000 -> ∃e' toks' st',Reach u ⟨e,toks,st⟩ ⟨e',toks',st'⟩/\KT toks'=KT toks++ws/\u.length<=e'/\st'.map Prod.snd=S
 | [],e,toks,st,S,hc,hd,_=>by
  generalize ht:u.drop e=t at hd
  cases hd
  cases hc
  exact⟨e,toks,st,.refl _,by simp,by simpa using ht,rfl⟩
 | p::ws,e,toks,st,S,hc,hd,hl=>by
  simp only[List.length_cons]at hl
  cases hc with
  | @cons _ S1 _ _ _ k1 k2 =>
   generalize ht:u.drop e=t at hd
   cases hd with
   | @cons _ _ pre t hp ht2 hr =>
   obtain⟨⟨i',toks',st'⟩,h1,⟨a,l,h2⟩,h3,h4⟩:=b6h (toks:=toks) ht hp ht2 k1 (by omega)
   simp only at h2 h3 h4
   subst h2;subst h3
   rw[<-h4]at k2
   obtain⟨e',toks',st2,g1,g2,g3,g4⟩:=b9w ws (e+pre.length+(spK p.1 p.2).length) (toks++[⟨p.1,p.2,a,l⟩]) st' S k2 (by
    rw[<-List.drop_drop,<-List.drop_drop,ht,List.drop_left,List.drop_left]
    exact hr) (by simp;omega)
   exact⟨e',toks',st2,.step _ _ _ h1 g1,by rw[g2];simp[KT],g3,g4⟩
theorem say {u:List UInt8}{ws:List (Int×List UInt8)}(hc:Cs [] ws [])(hy:Ly ws u)(hl:ws.length<=3000)(h8:u.length<=8000):∃m,a1r u=.done m/\KT m=ws:=by
 obtain⟨e',toks',st',h1,h2,h3,h4⟩:=b9w (u:=u) ws 0 [] [] [] hc hy (by simpa using hl)
 have hs:st'=[]:=by simpa using h4
 subst hs
 exact⟨toks',Ends.det _ ((a6n u).2.2 h8) ⟨_,h1,a3W (b3J h3) h3,fun z hz=>(by cases hz)⟩,by simpa [KT]using h2⟩
end Go.Proofs.YtjhfloacokgdiaaGreatDoor.Sc
namespace Go.Proofs.YtjhfloacokgdiaaGreatDoor.Sc
open Go Go.Vm
def tlen:PR->Nat
 | .fin t _=>t.length
 | .more t _=>t.length
 | .err _ _=>0
theorem b0P (s:List UInt8)(q ins:Nat):∀(f i:Nat) (text:List UInt8),tlen (a5G s q ins f i text)<=text.length+(s.length-i)
 | 0,i,text=>Nat.zero_le _
 | f+1,i,text=>by
  have h1:=b0P s q ins f (i+1) (text++[s.getD i 0])
  have h2:=b0P s q ins f (i+2) (text++[10])
  have h3:=b0P s q ins f (i+2) (text++[9])
  have h4:=b0P s q ins f (i+2) (text++[s.getD (i+1) 0])
  simp only[List.length_append,List.length_singleton]at h1 h2 h3 h4
  rcases Nat.lt_or_ge i s.length with hi|hi
  ·simp only[a5G]
   repeat' split
   all_goals first|exact Nat.zero_le _ |(simp only[tlen];omega)|omega
  ·have:(decide (i<s.length)&&decide (32 <=(s.getD i 0).toNat))=false:=by rw[Bool.and_eq_false_iff,decide_eq_false_iff_not];exact .inl (by omega)
   simp only[a5G,this]
   exact Nat.zero_le _
theorem c3F {s:List UInt8}{toks:List Tok}{st:List (Nat×Int)}{q j ins:Nat}{a b:Int}{y:MS}(h:a1H toks st q j a b (part s q ins (j+1) [])=.go y) :
  ∃t:Tok,y.toks=toks++[t]/\t.t.length<=s.length:=by
 have hp:=b0P s q ins (s.length-(j+1)) (j+1) []
 simp only[List.length_nil,Nat.zero_add]at hp
 have hp:tlen (part s q ins (j+1) [])<=_:=hp
 cases hq:part s q ins (j+1) []with
 | err c a=>rw[hq]at h;cases h
 | fin t e =>
  rw[hq]at h hp
  simp only[a1H]at h
  simp only[tlen]at hp
  cases h
  exact⟨_,rfl,show t.length<=_ by omega⟩
 | more t e =>
  rw[hq]at h hp
  simp only[a1H]at h
  simp only[tlen]at hp
  cases h
  exact⟨_,rfl,show t.length<=_ by omega⟩
theorem b7U (s:List UInt8)(a b:Nat):((s.take a).drop b).length<=s.length:=by
 rw[List.length_drop,List.length_take];omega
theorem c0E (s:List UInt8)(i:Nat):∀k,(a1W s i k).length<=s.length
 | 0=>Nat.zero_le _
 | k+1=>by
  unfold a1W
  split
  ·exact b7U _ _ _
  ·exact c0E s i k
theorem step_txt {s:List UInt8}{x y:MS}(h:stepM s x=.go y):∃t:Tok,y.toks=x.toks++[t]/\t.t.length<=s.length:=by
 obtain⟨i0,toks,st⟩:=x
 obtain⟨i,h0⟩:∃i,a0E s i0=i:=⟨_,rfl⟩
 show ∃t:Tok,y.toks=toks++[t]/\_
 rcases Nat.lt_or_ge i s.length with hi|hi
 ·cases hc:closes (s.getD i 0).toNat st with
  | true =>
   cases st with
   | nil=>cases hc
   | cons z st =>
    obtain⟨q,p⟩:=z
    rw[(a14 h0 hi hc).2]at h
    exact c3F (a00 h).2
  | false =>
   by_cases h1:(s.getD i 0).toNat=34
   ·rw[a3x h0 hi hc h1]at h
    exact c3F (a00 h).2
   ·cases h2:U8 (s.getD i 0)with
    | true =>
     rw[a2H h0 hi hc h1 h2]at h
     have h:=(a00 h).2
     split at h
     ·cases h
     ·cases h
      exact⟨_,rfl,b7U _ _ _⟩
    | false =>
     cases h3:a0I (s.getD i 0)with
     | true =>
      rw[a15 h0 hi hc h1 h2 h3]at h
      have h:=(a00 h).2
      split at h
      ·cases h
      ·cases h;exact⟨_,rfl,b7U _ _ _⟩
     | false =>
      cases hw:a1W s i 2 with
      | nil=>rw[a4E h0 hi hc h1 h2 h3 hw]at h;cases h
      | cons b w =>
       have hl:=c0E s i 2
       rw[hw]at hl
       rw[a1O h0 hi hc h1 h2 h3 hw (by simp)]at h
       have h:=(a00 h).2
       cases h
       exact⟨_,rfl,hl⟩
 ·cases st with
  | nil=>rw[a3W h0 hi]at h;cases h
  | cons z st=>obtain⟨q,p⟩:=z;rw[a4G h0 hi]at h;cases h
theorem c5k {s:List UInt8}{x y:MS}(h:Reach s x y):(∀t∈x.toks,t.t.length<=s.length) -> ∀t∈y.toks,t.t.length<=s.length:=by
 induction h with
 | refl x=>exact fun h=>h
 | step x y z h1 _ ih =>
  intro h2
  obtain⟨t,g1,g2⟩:=step_txt h1
  refine ih fun u hu=>?_
  rw[g1]at hu
  rcases List.mem_append.1 hu with hu|hu
  ·exact h2 u hu
  ·rcases List.mem_singleton.1 hu with rfl
   exact g2
theorem tok_txt {s:List UInt8}{l:List Tok}(h:a1r s=.done l):∀t∈l,t.t.length<=8000:=by
 obtain⟨h1,_,h2⟩:=a6n s
 have h3:=(h1.lay l h).1
 obtain⟨y,g1,g2,_⟩:=h2 h3
 rw[h]at g2
 rw[<-(a4F g2).1]
 exact fun t ht=>Nat.le_trans (c5k g1 (fun t ht=>by cases ht) t ht) h3
def V1 (kd:Int)(s:List UInt8):Prop :=
 (kd=1∨kd=2->s ≠ []/\a0I (s.headD 0)=true/\s.all a19=true/\ltB 24 (s.length:Nat)=false/\a3L s=kd)/\(kd=3->IntW s/\s.all U8=true /\ ∀c,a0I c=false->a0H s c=false)/\(4<=kd/\kd<=7->s.all okB=true/\s.length<=8000)
theorem ts_V1 {S S':List Int}{k:Int}{x:List UInt8}(h:TS S k x S')(hl:x.length<=8000)(hi:k=3->IntW x):V1 k x:=by
 have lit:∀{k:Int},(k=4∨k=5∨k=6∨k=7)->x.all okB=true->V1 k x:=fun hk ho=>⟨fun h=>by omega,fun h=>by omega,fun _=>⟨ho,hl⟩⟩
 cases h with
 | tail _ _ h=>exact lit (by omega) h
 | mid _ _ h _=>exact lit (by omega) h
 | text _ _ h=>exact lit (by omega) h
 | head _ _ h _=>exact lit (by omega) h
 | int _ _ h h1 h2=>exact⟨fun h=>by omega,fun _=>⟨hi rfl,h1,h2⟩,fun h=>by omega⟩
 | name _ _ h h0 h1 h2 =>
  refine⟨fun _=>⟨h,h0,h1,h2,rfl⟩,fun h=>absurd h (b9S _),fun h=>?_⟩
  exfalso
  revert h
  unfold a3L
  split
  ·omega
  ·split<;>omega
 | sign _ _ h h1=>exact⟨fun h=>by omega,fun h=>by omega,fun h=>by omega⟩
theorem reach_ts {s:List UInt8}{x y:MS}(h:Reach s x y):(∀t∈x.toks,∃S S',TS S t.k t.t S') -> ∀t∈y.toks,∃S S',TS S t.k t.t S':=by
 induction h with
 | refl x=>exact fun h=>h
 | step x y z h1 _ ih =>
  intro h2
  obtain⟨t,g1,_,g2⟩:=b3L h1
  refine ih fun u hu=>?_
  rw[g1]at hu
  rcases List.mem_append.1 hu with hu|hu
  ·exact h2 u hu
  ·rcases List.mem_singleton.1 hu with rfl
   exact⟨_,_,g2⟩
theorem tok_V1 {s:List UInt8}{l:List Tok}(h:a1r s=.done l):∀t∈l,V1 t.k t.t:=by
 intro t ht
 obtain⟨h1,_,h2⟩:=a6n s
 obtain⟨y,g1,g2,_⟩:=h2 (h1.lay l h).1
 rw[h]at g2
 obtain⟨S,S',g3⟩:=reach_ts g1 (fun t ht=>by cases ht) t (by rw[(a4F g2).1];exact ht)
 exact ts_V1 g3 (tok_txt h t ht) (tok_int h t ht)
def okS (S:List Int):Prop:=S=[] ∨ ∃p r,S=p::r/\0<=p
theorem SG_ok:SGL.all (fun s=>a7v a0N s&&(!decide ((s.headD 0).toNat=41)&&(!decide (s=[40]) && !decide (s=[41]))))=true:=by decide
theorem KY_ok:KYL.all (fun s=>!decide (s=[])&&(a0I (s.headD 0)&&(s.all a19&&(decide (s.length<=24)&&decide (a3L s=9)))))=true:=by decide
theorem b6O {b:Nat}(h:b≠41):∀S,b43 b S=false
 | []=>rfl
 | p::_=>by simp only[b43,decide_eq_false h,Bool.and_false]
theorem ch_sign {s:List UInt8}(h:s∈SGL)(S:List Int):TS S 8 s S:=by
 have h1:=List.all_eq_true.1 SG_ok s h
 simp only[Bool.and_eq_true,Bool.not_eq_true',decide_eq_false_iff_not]at h1
 obtain⟨g1,g2,g3,g4⟩:=h1
 have e:b3T s S=S:=by
  cases S with
  | nil=>rfl
  | cons p r=>simp only[b3T,decide_eq_false g3,decide_eq_false g4]
 have:=TS.sign s S g1 (b6O g2 S)
 rw[e]at this
 exact this
theorem ch_key {s:List UInt8}(h:s∈KYL)(S:List Int):TS S 9 s S:=by
 have h1:=List.all_eq_true.1 KY_ok s h
 simp only[Bool.and_eq_true,Bool.not_eq_true',decide_eq_false_iff_not,decide_eq_true_eq]at h1
 obtain⟨g1,g2,g3,g4,g5⟩:=h1
 have:=TS.name s S g1 g2 g3 (a1j (by omega))
 rw[g5]at this
 exact this
theorem ch_tok {p:Int×List UInt8}(h:KO V1 p)(S:List Int):TS S p.1 p.2 S:=by
 obtain⟨k,s⟩:=p
 rcases h with⟨hk,hv⟩ |⟨hk,hs⟩ |⟨hk,hs⟩|h
 ·simp only at hk hv ⊢
  rcases hk with rfl|rfl|rfl|rfl
  ·obtain⟨g1,g2,g3,g4,g5⟩:=hv.1 (.inl rfl)
   have:=TS.name s S g1 g2 g3 g4
   rw[g5]at this;exact this
  ·obtain⟨g1,g2,g3,g4,g5⟩:=hv.1 (.inr rfl)
   have:=TS.name s S g1 g2 g3 g4
   rw[g5]at this;exact this
  ·obtain⟨g1,g2,g3⟩:=hv.2.1 rfl
   exact .int s S g1.1 g2 g3
  ·exact .text s S (hv.2.2 (by omega)).1
 ·simp only at hk hs ⊢;subst hk;exact ch_sign hs S
 ·simp only at hk hs ⊢;subst hk;exact ch_key hs S
 ·obtain⟨rfl,rfl⟩:=Prod.mk.inj h
  have:=TS.name [95] S (by decide) (by decide) (by decide) (a1j (by decide))
  rw[show a3L [95]=1 by
   unfold a3L
   rw[show a7v a3r [95]=false by decide,show leB (65:Int) (([95]:List UInt8).getD 0 0).toNat=true from b5u (by decide),show leB (([95]:List UInt8).getD 0 0).toNat (90:Int)=false from b9X (by decide)]
   rfl]at this
  exact this
theorem b7S (S:List Int):TS S 8 [40] (b3T [40] S):=.sign [40] S (by decide) (b6O (by decide) S)
theorem ch_iw {vs:List (List (Int×List UInt8)×List UInt8)}(h:∀v∈vs,∀S,okS S->Ch S v.1 S)(g:∀v∈vs,V1 4 v.2):vs ≠ [] -> ∀S,Ch (0::S) (iw vs) S:=by
 induction vs with
 | nil=>exact fun h=>absurd rfl h
 | cons v r ih =>
  intro _ S
  have h1:=h v (by simp) (0::S) (.inr ⟨0,S,rfl,by omega⟩)
  have h2:=((g v (by simp)).2.2 (by omega)).1
  cases r with
  | nil=>rw[iw];exact h1.app (.cons (.of (.tail _ S h2)) (.nil _))
  | cons q r=>rw[iw];exact h1.app (.cons (.mid _ S h2) (ih (fun v hv=>h v (by simp[hv])) (fun v hv=>g v (by simp[hv])) (by simp) S))
theorem bal_ch {w:List (Int×List UInt8)}(h:Bal V1 w):∀S,okS S->Ch S w S:=by
 induction h with
 | nil=>exact fun S _=>.nil S
 | tok h1 _ ih=>exact fun S hS=>.cons (.of (ch_tok h1 S)) (ih S hS)
 | @par w r h1 h2 ih1 ih2 =>
  intro S hS
  refine .cons (.of (b7S S)) ?_
  rcases hS with rfl |⟨p,q,rfl,hp⟩
  ·exact(ih1 [] (.inl rfl)).app (.cons (.of (.sign [41] [] (by decide) rfl)) (ih2 [] (.inl rfl)))
  ·refine(ih1 _ (.inr ⟨p+1,q,rfl,by omega⟩)).app (.cons (S1:=p::q) (.of ?_) (ih2 _ (.inr ⟨p,q,rfl,hp⟩)))
   have:=TS.sign [41] ((p+1)::q) (by decide) (by simp only[b43];rw[decide_eq_false (show ¬p+1=0 by omega)];rfl)
   have e:b3T [41] ((p+1)::q)=p::q:=by
    show(p+1-1)::q=p::q
    rw[show p+1-1=p by omega]
   rw[e]at this
   exact this
 | @int s vs r h1 h2 h3 h4 h5 ih3 ih5 =>
  intro S hS
  exact .cons (.head s S (h1.2.2 (by omega)).1) ((ch_iw ih3 h4 h2 S).app (ih5 S hS))
end Go.Proofs.YtjhfloacokgdiaaGreatDoor.Sc
namespace Go.Proofs.YtjhfloacokgdiaaGreatDoor
open Go Go.Vm
mutual
def Nod.cnt:Nod->Nat
 |⟨_,_,_,_,_,l,_⟩=>1+b2F l
def b2F:List Nod->Nat
 | []=>0
 | x::r=>x.cnt+b2F r
end
mutual
def Nod.dep:Nod->Nat
 |⟨_,_,_,_,_,l,_⟩=>b2G l+1
def b2G:List Nod->Nat
 | []=>0
 | x::r=>max x.dep (b2G r)
end
theorem Nod.cnt_eq (x:Nod):x.cnt=1+b2F x.l:=by cases x;rfl
theorem Nod.dep_eq (x:Nod):x.dep=b2G x.l+1:=by cases x;rfl
mutual
theorem c1t:∀x:Nod,x.er.cnt=x.cnt
 |⟨_,_,_,_,_,l,_⟩=>by rw[Nod.er,Nod.cnt,Nod.cnt,c3d l]
theorem c3d:∀l:List Nod,b2F (ers l)=b2F l
 | []=>rfl
 | x::r=>by rw[ers,b2F,b2F,c1t x,c3d r]
end
mutual
theorem c1v:∀x:Nod,x.er.dep=x.dep
 |⟨_,_,_,_,_,l,_⟩=>by rw[Nod.er,Nod.dep,Nod.dep,c3g l]
theorem c3g:∀l:List Nod,b2G (ers l)=b2G l
 | []=>rfl
 | x::r=>by rw[ers,b2G,b2G,c1v x,c3g r]
end
mutual
theorem cnt_le:∀x:Nod,x.cnt+x.dep<=2*x.sz
 |⟨_,_,_,t,ts,l,_⟩=>by
  have:=c3e l
  rw[Nod.cnt,Nod.dep,nsz]
  omega
theorem c3e:∀l:List Nod,b2F l+b2G l<=2*szN l
 | []=>by simp[b2F,b2G,szN]
 | x::r=>by
  have h1:=cnt_le x
  have h2:=c3e r
  simp only[b2F,b2G,szN]
  omega
end
mutual
theorem b6m:∀x:Nod,x.er.sz=x.sz
 |⟨_,_,_,_,_,l,_⟩=>by rw[Nod.er,nsz,nsz,szN_er l]
theorem szN_er:∀l:List Nod,szN (ers l)=szN l
 | []=>rfl
 | x::r=>by rw[ers,szN,szN,b6m x,szN_er r]
end
theorem size_l {n:Nat}{Φ:T9}{x:Nod}(hx:x.sz<=1000000000)(H:∀y∈x.l,Φ.a1u y=some ((y.cnt:Int),(y.dep:Int))):∀(m i a d:Nat),x.l.length<m+i->i<=x.l.length->a+b2F (x.l.drop i)<=4000000000->a4p n Φ x m a d i=some (((a+b2F (x.l.drop i):Nat):Int),((max d (b2G (x.l.drop i)):Nat):Int))
 | 0,i,a,d,h1,h2,_=>by omega
 | m+1,i,a,d,h1,h2,h3=>by
  rw[a4p.eq_2]
  have hl:=a1y x.l
  have hz:=x.a3w
  rcases Nat.lt_or_ge i x.l.length with h|h
  ·rw[drop_eq h]at h3 ⊢
   simp only[b2F,b2G]at h3 ⊢
   rw[a0v (by omega),a0S h]
   simp only[NF,H _ (List.getElem_mem h)]
   have e1:w64 ((a:Int)+(x.l[i].cnt:Int)) =((a+x.l[i].cnt:Nat):Int):=by rw[a5v (by omega) (by omega)];omega
   have e2:max (d:Int) (x.l[i].dep:Int) =((max d x.l[i].dep:Nat):Int):=by omega
   rw[e1,e2,F9 (by omega),size_l hx H m (i+1) (a+x.l[i].cnt) (max d x.l[i].dep) (by omega) (by omega) (by omega)]
   congr 3
   ·omega
   ·omega
  ·rw[a1j (by omega),List.drop_eq_nil_of_le h]
   simp[NF,b2F,b2G]
theorem c2F:∀(n:Nat) (x:Nod),x.sz<n->x.sz<=1000000000->a1u n x=some ((x.cnt:Int),(x.dep:Int))
 | 0,x,h,_=>by omega
 | n+1,x,h,hx=>by
  have hz:=x.a3w
  have hc:=cnt_le x
  have hc1:=x.cnt_eq
  have hl:=a1y x.l
  have H:∀y∈x.l,(T9.fs n).a1u y=some ((y.cnt:Int),(y.dep:Int)):=fun y hy=>by
   have:=a5r hy
   exact c2F n y (by omega) (by omega)
  have e:=size_l (n:=n) hx H n 0 1 0 (by omega) (Nat.zero_le _) (by rw[List.drop_zero];omega)
  have e0:a4p n (T9.fs n) x n 1 0 0=_:=e
  show a5f n (T9.fs n) x=_
  unfold a5f
  rw[e0,List.drop_zero]
  simp only[NF]
  have hd:=x.dep_eq
  have e3:w64 (((max 0 (b2G x.l):Nat):Int)+1) =(x.dep:Int):=by rw[a5v (by omega) (by omega)];omega
  rw[e3,hc1]
theorem c4c {n:Nat}{Φ:F5}{a:List Typ}(ha:a.length<=1000000000)(H:∀t∈a,Φ.Y8 t t=some true):∀(m i:Nat),a.length<m+i->i<=a.length->a1b n Φ a a m i=some (.brk ())
 | 0,i,h1,h2=>by omega
 | m+1,i,h1,h2=>by
  rw[a1b.eq_2]
  rcases Nat.lt_or_ge i a.length with h|h
  ·rw[a0v (by omega),a0S h]
   simp only[NF,H _ (List.getElem_mem h)]
   rw[F9 (by omega)]
   exact c4c ha H m (i+1) (by omega) (by omega)
  ·rw[a1j (by omega)];rfl
theorem sameTs {n:Nat}{a:List Typ}(ha:a.length<=1000000000)(hn:a.length<n)(H:∀t∈a,(F5.fs n).Y8 t t=some true):(F5.fs (n+1)).S9 a a=some true:=by
 show a1o n (F5.fs n) a a=_
 have e:a1b n (F5.fs n) a a n 0=_:=c4c ha H n 0 (by omega) (Nat.zero_le _)
 unfold a1o
 rw[a0C rfl,e]
 rfl
theorem sameT:∀(n:Nat) (t:Typ),2*t.sz+1<=n->t.sz<=1000000000 ->(F5.fs n).Y8 t t=some true
 | 0,t,h,_=>by have:=t.a3w;omega
 | 1,t,h,_=>by have:=t.a3w;omega
 | n+2,t,h,ht=>by
  have hz:=t.a3w
  have hl:=a5T t.args
  show a3c (n+1) (F5.fs (n+1)) t t=_
  unfold a3c
  rw[a0C rfl,a4Z,a0C rfl,sameTs (by omega) (by omega) fun x hx=>by
   have:=a3p hx
   exact sameT n x (by omega) (by omega)]
  rfl
theorem c4b {n:Nat}{Φ:J9}{a b:List Nod}(ha:a.length<=1000000000)(hab:ers a=ers b)(H:∀x∈a,∀y,x.er=y.er->Φ.a07 x y=some true):∀(m i:Nat),a.length<m+i->i<=a.length->a1a n Φ a b m i=some (.brk ())
 | 0,i,h1,h2=>by omega
 | m+1,i,h1,h2=>by
  rw[a1a.eq_2]
  have hb:=a3Y hab
  rcases Nat.lt_or_ge i a.length with h|h
  ·have hi:i<b.length:=by omega
   have e:(a[i]).er =(b[i]).er:=by
    have e1:∀(l:List Nod) (h:i<l.length),(ers l)[i]'(by rw[a7f];exact h) =(l[i]).er:=fun l=>by
     have:∀(l:List Nod) (i:Nat) (h:i<l.length),(ers l)[i]'(by rw[a7f];exact h) =(l[i]).er:=fun l=>by
      induction l with
      | nil=>intro i h;exact absurd h (Nat.not_lt_zero _)
      | cons x r ih =>
       intro i h
       cases i with
       | zero=>rfl
       | succ i=>exact ih i (by simpa using h)
     exact this l i
    rw[<-e1 a h,<-e1 b hi]
    simp only[hab]
   rw[a0v (by omega),a0S h,a0S hi]
   simp only[NF,H _ (List.getElem_mem h) _ e]
   rw[F9 (by omega)]
   exact c4b ha hab H m (i+1) (by omega) (by omega)
  ·rw[a1j (by omega)];rfl
theorem same_v:∀(n:Nat) (x y:Nod),2*x.sz+1<=n->x.sz<=1000000000->x.er=y.er ->(J9.fs n).a07 x y=some true
 | 0,x,y,h,_,_=>by have:=x.a3w;have:=x.t.a3w;omega
 | 1,x,y,h,_,_=>by have:=x.a3w;have:=x.t.a3w;omega
 | n+2,x,y,h,hx,he=>by
  have hz:=x.a3w
  have hl:=a1y x.l
  have hl2:=a5T x.ts
  obtain⟨e1,e2,e3,e4,e5,e6⟩:=a7U he
  have hyl:=a3Y e6
  show a5e (n+1) (J9.fs (n+1)) x y=_
  have g1:Y8 (n+1) x.t y.t=some true:=by rw[<-e4];exact sameT (n+1) x.t (by omega) (by omega)
  have g2:S9 (n+1) x.ts y.ts=some true:=by
   rw[<-e5]
   exact sameTs (n:=n) (by omega) (by omega) fun t ht=>by
    have:=a3p ht
    exact sameT n t (by omega) (by omega)
  have g3:(J9.fs (n+1)).Y0 x.l y.l=some true:=by
   have e:a1a n (J9.fs n) x.l y.l n 0=_:=c4b (by omega) e6 (fun z hz w hw=>by
    have:=a5r hz
    exact same_v n z w (by omega) (by omega) hw) n 0 (by omega) (Nat.zero_le _)
   show a1n n (J9.fs n) x.l y.l=_
   unfold a1n
   rw[a0C (show(x.l.length:Int) =(y.l.length:Int)by rw[hyl]),e]
   rfl
  unfold a5e
  rw[a0C e1,<-e2,a4Z,a0C e3,g1,g2,g3]
  rfl
theorem a9w {n:Nat}{x y:Nod}(h:2*x.sz+1<=n)(hx:x.sz<=1000000000)(he:x.er=y.er):a07 n x y=some true:=same_v n x y h hx he
theorem tokT_mem {l:List Tok}{k:Nat}(h:k<l.length):a1h l k∈l:=by
 unfold a1h
 rw[List.getElem?_eq_getElem h]
 exact List.getElem_mem h
theorem c5D (s:Str):(eqB (b0Y (Sc.a1r s)) 0=true/\eqB (tokA (Sc.a1r s)) 0=true)∨eqB (b0Y (Sc.a1r s)) 0=false:=by
 rcases tok_code s with⟨h1,h2⟩ |⟨h1,_⟩
 ·exact .inl ⟨a0C h1,a0C h2⟩
 ·exact .inr (a1G h1)
theorem tok_v1 {s:Str}:∀t∈a4f (Sc.a1r s),Sc.V1 t.kind t.text:=by
 intro t ht
 cases h:Sc.a1r s with
 | done l =>
  rw[h]at ht
  obtain⟨u,hu,rfl⟩:=List.mem_map.1 ht
  exact Sc.tok_V1 h u hu
 | go x=>rw[h]at ht;cases ht
 | err c a=>rw[h]at ht;cases ht
theorem cx1 (s:Str):Cx Sc.V1 (a4f (Sc.a1r s)) (a4f (Sc.a1r s)) where
 hl:=b3f s
 ln:=rfl
 kd _:=rfl
 tx _:=rfl
 tk {k kd} h:=by
  have hk:(a1h (a4f (Sc.a1r s)) k).kind=kd:=by
   unfold isK at h
   rw[Bool.and_eq_true,a5Y]at h
   exact of_decide_eq_true h.2
  rw[<-hk]
  exact tok_v1 _ (tokT_mem (a5a h))
 lit h:=by
  have hh:=h.elim (fun h=>h.2.2 (by omega)) fun h=>h.elim (fun h=>h.2.2 (by omega)) fun h=>h.2.2 (by omega)
  exact⟨fun h=>by omega,fun h=>by omega,fun _=>hh⟩
 int h:=Sc.b2O (h.2.1 rfl).1
theorem vo1:VO Sc.V1 where
 n3 h:=numw_of (h.2.1 rfl).1
 d3 h:=Sc.b2O (h.2.1 rfl).1
 t4 h:=by have:=(h.2.2 (by omega)).2;omega
def zN:Nod:=⟨0,[],0,⟨0,[],0,[]⟩,[],[],0⟩
theorem bindP_id {α β:Type}(p:Option (Rs α β)):p8 p (fun z=>some (.ok z)) (fun z=>some (.pan z))=p:=by
 rcases p with _ |⟨a|b⟩<;>rfl
theorem expr_c {n:Nat}(hn:400000<=n)(s:Str)(size:Int):∃r,C9 n (a4f (Sc.a1r s)) 0 size=some r/\((∃(x:Nod) (q:Nat),r=.ok (x,(q:Int))/\q <=(a4f (Sc.a1r s)).length/\G Sc.V1 0 x/\x.sz<=12000) ∨ ∃(e:l7) (q:Nat),r=.pan (e,(q:Int))/\q <=(a4f (Sc.a1r s)).length/\e.fault.code≠0):=by
 have C:=cx1 s
 have hl:=C.hl
 have h:=expr_r C (size:=size) (size':=size) (n:=n) (k:=0) (Nat.zero_le _) hn
 obtain⟨a,b,e1,_,h2⟩:=h (Rs (Nod×Int) (l7×Int)) (fun a _=>(∃(x:Nod) (q:Nat),a=.ok (x,(q:Int))/\q <=(a4f (Sc.a1r s)).length/\G Sc.V1 0 x/\x.sz<=12000) ∨ ∃(e:l7) (q:Nat),a=.pan (e,(q:Int))/\q <=(a4f (Sc.a1r s)).length/\e.fault.code≠0) (fun z=>some (.ok z)) (fun z=>some (.ok z)) (fun z=>some (.pan z)) (fun z=>some (.pan z))
  (fun{x y q} h1 h2 h3 h4 h5=>S2mk (.inl ⟨x,q,rfl,h2,h5,by omega⟩)) (fun{e e' q} h1 h2 h3 h4=>S2mk (.inr ⟨e,q,rfl,h2,h4⟩))
 rw[bindP_id]at e1
 exact⟨a,e1,h2⟩
theorem expr_v {n:Nat}(hn:400000<=n)(s:Str):∃x f,a3j n s=some (x,f)/\(x=zN/\f.code≠0∨f =⟨0,0⟩/\eqB (b0Y (Sc.a1r s)) 0=true/\G Sc.V1 0 x/\x.sz<=12000/\x.cnt<=4000/\x.dep<=40):=by
 unfold a3j a6h a7P
 simp only[NF]
 rcases c5D s with⟨h1,h2⟩|h1
 ·simp only[h1,h2,NF,Bool.and_self]
  obtain⟨r,e,hr⟩:=expr_c hn s (s.length:Int)
  have hl:=b3f s
  unfold a1D a4o
  rw[e]
  rcases hr with⟨x,q,rfl,hq,hG,hz⟩ |⟨e,q,rfl,hq,he⟩
  ·rcases Nat.lt_or_ge q (a4f (Sc.a1r s)).length with h|h
   ·simp only[NF]
    rw[show ltB (q:Int) ((a4f (Sc.a1r s)).length:Int)=true from a0v (by omega)]
    simp only[NF,b77 hl hq]
    rw[show eqB 20 0=false from a1G (by decide)]
    exact⟨_,_,rfl,.inl ⟨rfl,show(20:Int)≠0 by decide⟩⟩
   ·simp only[NF]
    rw[show ltB (q:Int) ((a4f (Sc.a1r s)).length:Int)=false from a1j (by omega)]
    simp only[NF]
    rw[show eqB 0 0=true from a0C rfl]
    simp only[NF,Bool.and_self,c2F n x (by omega) (by omega)]
    rcases Nat.lt_or_ge 40 x.dep with g1|g1
    ·rw[show ltB 40 (x.dep:Int)=true from a0v (by omega)]
     exact⟨_,_,rfl,.inl ⟨rfl,by decide⟩⟩
    ·rw[show ltB 40 (x.dep:Int)=false from a1j (by omega)]
     rcases Nat.lt_or_ge 4000 x.cnt with g2|g2
     ·rw[show ltB 4000 (x.cnt:Int)=true from a0v (by omega)]
      exact⟨_,_,rfl,.inl ⟨rfl,by decide⟩⟩
     ·rw[show ltB 4000 (x.cnt:Int)=false from a1j (by omega)]
      exact⟨x,⟨0,0⟩,rfl,.inr ⟨rfl,trivial,hG,hz,g2,g1⟩⟩
  ·simp only[NF]
   rw[a1G he]
   exact⟨_,_,rfl,.inl ⟨rfl,he⟩⟩
 ·simp only[h1,NF,Bool.false_and]
  refine⟨_,_,rfl,.inl ⟨rfl,fun e=>?_⟩⟩
  have e:b0Y (Sc.a1r s)=0:=e
  rw[a0C e]at h1
  cases h1
theorem kt_tok {s:Str}{l:List Sc.Tok}(h:Sc.a1r s=.done l):kt (a4f (Sc.a1r s))=Sc.KT l:=by
 rw[h]
 simp only[kt,a4f,Sc.KT,List.map_map]
 rfl
theorem expr_w {n:Nat}(hn:400000<=n){s:Str}{l:List Sc.Tok}{x:Nod}{w:List WK}(hx:RE x w)(h:Sc.a1r s=.done l)(hw:Sc.KT l=w)(hz:x.sz<=12000)(hc:x.cnt<=4000)(hd:x.dep<=40):∃y,a3j n s=some (y,⟨0,0⟩)/\y.er=x.er:=by
 have hl:=b3f s
 have K:kt ((a4f (Sc.a1r s)).drop 0)=w++[]:=by rw[List.drop_zero,List.append_nil,kt_tok h,hw]
 obtain⟨y,e,he⟩:=hx hl (Nat.zero_le _) K ⟨⟨rfl,rfl⟩,fun _ _=>rfl⟩ (show _<=n by omega) (size:=(s.length:Int))
 have hlen:0+w.length =(a4f (Sc.a1r s)).length:=by
  have:=congrArg List.length K
  simp only[kt,List.length_map,List.drop_zero,List.append_nil]at this
  omega
 rw[hlen]at e
 have e:C9 n (a4f (Sc.a1r s)) 0 (s.length:Int)=some (.ok (y,((a4f (Sc.a1r s)).length:Int))):=e
 refine⟨y,?_,he⟩
 have hsz:y.sz=x.sz:=by rw[<-b6m,he,b6m]
 have hct:y.cnt=x.cnt:=by rw[<-c1t,he,c1t]
 have hdp:y.dep=x.dep:=by rw[<-c1v,he,c1v]
 have c1:b0Y (Sc.a1r s)=0:=by rw[h];rfl
 have c2:tokA (Sc.a1r s)=0:=by rw[h];rfl
 unfold a3j a6h a7P
 simp only[NF,c1,c2]
 rw[show eqB 0 0=true from a0C rfl]
 simp only[NF,Bool.and_self]
 unfold a1D a4o
 rw[e]
 simp only[NF]
 rw[show ltB ((a4f (Sc.a1r s)).length:Int) ((a4f (Sc.a1r s)).length:Int)=false from a1j (by omega)]
 simp only[NF]
 rw[show eqB 0 0=true from a0C rfl]
 simp only[NF,Bool.and_self,c2F n y (by omega) (by omega)]
 rw[show ltB 40 (y.dep:Int)=false from a1j (by omega),show ltB 4000 (y.cnt:Int)=false from a1j (by omega)]
 rfl
end Go.Proofs.YtjhfloacokgdiaaGreatDoor
namespace Go.Proofs.YtjhfloacokgdiaaGreatDoor
open Go Go.Vm
theorem SG_len:SGL.all (fun s=>decide (s.length<=8000))=true:=by decide
theorem KY_len:KYL.all (fun s=>decide (s.length<=8000))=true:=by decide
theorem iw_mem {p:WK}:∀{vs:List (List WK×Str)},p∈iw vs ->(∃v∈vs,p∈v.1) ∨ ∃v∈vs,p.2=v.2
 | [v],h=>by
  rw[iw]at h
  rcases List.mem_append.1 h with h|h
  ·exact .inl ⟨v,by simp,h⟩
  ·rcases List.mem_singleton.1 h with rfl
   exact .inr ⟨v,by simp,rfl⟩
 | v::q::r,h=>by
  rw[iw]at h
  rcases List.mem_append.1 h with h|h
  ·exact .inl ⟨v,by simp,h⟩
  ·rcases List.mem_cons.1 h with rfl|h
   ·exact .inr ⟨v,by simp,rfl⟩
   ·rcases iw_mem h with⟨u,h1,h2⟩ |⟨u,h1,h2⟩
    ·exact .inl ⟨u,by simp[List.mem_cons.1 h1],h2⟩
    ·exact .inr ⟨u,by simp[List.mem_cons.1 h1],h2⟩
theorem v1_len {k:Int}{s:Str}(hk:k=1∨k=2∨k=3∨k=4)(h:Sc.V1 k s):s.length<=8000:=by
 rcases Nat.lt_or_ge 8000 s.length with hl|hl
 ·exfalso
  rcases hk with rfl|rfl|rfl|rfl
  ·have:=(h.1 (.inl rfl)).2.2.2.1
   rw[a0v (by omega)]at this;cases this
  ·have:=(h.1 (.inr rfl)).2.2.2.1
   rw[a0v (by omega)]at this;cases this
  ·have:=Sc.b2O (h.2.1 rfl).1
   simp only[b2H,Bool.and_eq_true,Nat.ble_eq]at this
   omega
  ·have:=(h.2.2 (by omega)).2
   omega
 ·exact hl
theorem bal_wd {w:List WK}(h:Bal Sc.V1 w):∀p∈w,p.2.length<=8000:=by
 induction h with
 | nil=>intro p hp;cases hp
 | @tok q r h1 _ ih =>
  intro p hp
  rcases List.mem_cons.1 hp with rfl|hp
  ·rcases h1 with⟨hk,hv⟩ |⟨_,hs⟩ |⟨_,hs⟩|h
   ·exact v1_len hk hv
   ·exact of_decide_eq_true (List.all_eq_true.1 SG_len _ hs)
   ·exact of_decide_eq_true (List.all_eq_true.1 KY_len _ hs)
   ·rw[h];simp
  ·exact ih p hp
 | par _ _ ih1 ih2 =>
  intro p hp
  rcases List.mem_cons.1 hp with rfl|hp
  ·simp
  ·rcases List.mem_append.1 hp with hp|hp
   ·exact ih1 p hp
   ·rcases List.mem_cons.1 hp with rfl|hp
    ·simp
    ·exact ih2 p hp
 | int h1 _ _ h4 _ ih3 ih5 =>
  intro p hp
  rcases List.mem_cons.1 hp with rfl|hp
  ·exact(h1.2.2 (by omega)).2
  ·rcases List.mem_append.1 hp with hp|hp
   ·rcases iw_mem hp with⟨v,g1,g2⟩ |⟨v,g1,g2⟩
    ·exact ih3 v g1 p g2
    ·rw[g2];exact((h4 v g1).2.2 (by omega)).2
   ·exact ih5 p hp
theorem spK_len (k:Int)(x:Str):(Sc.spK k x).length<=2*x.length+3:=by
 have hl:=Rp.b0n x
 unfold Sc.spK
 repeat' split
 all_goals first|omega |(simp only[List.length_cons,List.length_append,List.length_nil];omega)
theorem c4d:∀(w:List WK),(∀p∈w,p.2.length<=8000) ->(Sc.spW w).length<=w.length*16010
 | [],_=>by simp[Sc.spW,List.intercalate]
 | p::r,h=>by
  have h1:=spK_len p.1 p.2
  have h2:=h p (by simp)
  have ih:=c4d r fun q hq=>h q (by simp[hq])
  rw[Sc.b6f]
  cases r with
  | nil=>simp only[List.length_append,List.length_nil,List.length_cons];omega
  | cons q r=>simp only[List.length_append,List.length_cons]at ih ⊢;omega
theorem join_sp (w:List WK):Lib.join (sp w) [32]=Sc.spW w:=by
 unfold sp Sc.spW Lib.join
 rfl
theorem c0x {x:Nod}{w:List WK}(hp:PX x w)(hb:Bal Sc.V1 w)(hz:x.sz<=12000){n:Nat}(hn:400000<=n):a1f n x=some (Sc.spW w)/\(Sc.spW w).length<=2000000000:=by
 obtain⟨h1,h2⟩:=hp
 have h3:=c4d w (bal_wd hb)
 have e:D9 n x []=some (sp w):=h2 n [] (by omega) (by simp only[List.length_nil];omega)
 have hl:(Sc.spW w).length<=2000000000:=by omega
 refine⟨?_,hl⟩
 unfold a1f
 rw[e]
 simp only[NF]
 unfold a2F b66 leN
 rw[join_sp,decide_eq_true (by simp only[WL];omega),decide_eq_true (by omega)]
 rfl
theorem cat_w {a b:Str}(h:a.length+b.length<=100000000000):cat a b=some (a++b):=by
 unfold cat
 rw[b5u (by omega)]
theorem c0A {x:Nod}{w:List WK}(h:RE x w):RE x ((8,[40]) ::(w++[(8,[41])])):=re_of (ru_of (rl_of (b21 h).n (by simp)) (fun _=>rfl) fun _=>rfl)
theorem print_z:a1f 1000000 zN=some []:=by
 unfold a1f zN
 have e:D9 1000000 ⟨0,[],0,⟨0,[],0,[]⟩,[],[],0⟩ []=some []:=by
  show A9 999999 (j4.fs 999999) _ []=_
  unfold A9
  simp only[a5Y,Int.reduceEq,decide_true,decide_false,NF]
  have e2:(j4.fs 999999).a0c ⟨0,[],0,⟨0,[],0,[]⟩,[],[],0⟩ []=some []:=by
   show K7 999998 (j4.fs 999998) _ []=_
   unfold K7
   simp only[a5Y,Int.reduceEq,decide_true,decide_false,NF]
  rw[e2]
  rfl
 rw[e]
 simp only[NF]
 unfold a2F b66 leN
 rfl
theorem par_trim (w:Str)(h:(([40,40]++w)++[41,41]).length<=8000):c0L (([40,40]++w)++[41,41])=some (([40,40]++w)++[41,41]):=by
 have e:Tr.rtr (([40,40]++w)++[41,41])=some (([40,40]++w)++[41,41]):=by
  have e1:(([40,40]++w)++[41,41]:Str).reverse=41 ::(41 ::(w.reverse++[40,40])):=by simp
  unfold Tr.rtr
  rw[e1,List.dropWhile_cons,if_neg (by decide)]
  simp
 show Tr.b7D (40 ::(40 ::(w++[41,41])))=_
 have e2:leN (40 ::(40 ::(w++[41,41])):Str).length 1000000=true:=b0w (Nat.le_trans h (by omega))
 unfold Tr.b7D
 simp only[e2,Bool.true_and]
 exact e
theorem c0g (s:Str):a3D 1000000 s=some true:=by
 unfold a3D a9b b3n
 simp only[NF]
 cases ltB 8200 (s.length:Int)
 ·simp only[NF]
  obtain⟨x,f,e,hx⟩:=expr_v (n:=1000000) (by omega) s
  rw[e]
  simp only[NF]
  rcases hx with⟨rfl,hf⟩ |⟨rfl,_,hG,hz,hc,hd⟩
  ·rw[print_z]
   simp only[NF,a1G hf]
  ·obtain⟨w,g⟩:∃w,XR Sc.V1 x w:=gx_x vo1 hG hz
   obtain⟨e2,hl⟩:=c0x (g.p x rfl) g.b hz (n:=1000000) (by omega)
   have c1:cat [40,40] (Sc.spW w)=some ([40,40]++Sc.spW w):=cat_w (by simp only[List.length_cons,List.length_nil];omega)
   have c2:cat ([40,40]++Sc.spW w) [41,41]=some (([40,40]++Sc.spW w)++[41,41]):=cat_w (by simp only[List.length_append,List.length_cons,List.length_nil];omega)
   rw[e2]
   simp only[NF,a5Y,decide_true,c1,c2]
   unfold a9a a7P
   rcases Nat.lt_or_ge 8000 (([40,40]++Sc.spW w)++[41,41]).length with g8|g8
   ·rw[a0v (by omega)]
    simp only[NF]
   ·rw[a1j (by omega)]
    simp only[NF]
    have h8:(Sc.spW w).length<=8000:=by simp only[List.length_append,List.length_cons,List.length_nil]at g8;omega
    cases hr:Sc.a1r (([40,40]++Sc.spW w)++[41,41])with
    | go y =>
     have:=(Sc.b3g (([40,40]++Sc.spW w)++[41,41])).1
     rw[hr]at this
     exact this.elim
    | err c a =>
     rw[show a4f (Sc.MR.err c a)=[]from rfl,a1j (by simp)]
     simp only[NF,par_trim _ g8]
     rw[show eqS (([40,40]++Sc.spW w)++[41,41]) []=false from b9B _ _]
     simp only[NF]
    | done l =>
     have hwne:w ≠ []:=by obtain⟨p,r,e,_⟩:=g.hd;rw[e];simp
     have hy0:Sc.Ly [(8,[41]),(8,[41])] [41,41]:=.cons (pre:=[]) (t:=[41]) (.inl rfl) (.inl (.inr ⟨41,[],rfl,.inr (.inr rfl)⟩)) (.cons (pre:=[]) (t:=[]) (.inl rfl) (.inl (.inl rfl)) .nil)
     have hy1:=Sc.ly_sp hy0 (.inr ⟨41,[41],rfl,.inr (.inr rfl)⟩) w [] (.inl rfl) hwne
     have hy2:Sc.Ly (((8,[40]) ::(8,[40])::w)++[(8,[41]),(8,[41])]) (([40,40]++Sc.spW w)++[41,41]):=by
      have h:Sc.Ly ((8,[40]) ::(8,[40]) ::(w++[(8,[41]),(8,[41])])) ([] ++(Sc.spK 8 [40] ++([] ++(Sc.spK 8 [40] ++([] ++(Sc.spW w++[41,41])))))):=.cons (.inl rfl) (.inr ⟨rfl,rfl⟩) (.cons (.inl rfl) (.inr ⟨rfl,rfl⟩) hy1)
      have e:([] ++(Sc.spK 8 [40] ++([] ++(Sc.spK 8 [40] ++([] ++(Sc.spW w++[41,41]))))):Str) =([40,40]++Sc.spW w)++[41,41]:=by
       rw[show Sc.spK 8 [40]=[40]from rfl]
       simp
      rw[e]at h
      exact h
     have hch:Sc.Ch [] w []:=Sc.bal_ch g.b [] (.inl rfl)
     have hch1:Sc.Ch [] ((8,[40]) ::(8,[40])::w) []:=.cons (.of (Sc.b7S [])) (.cons (.of (Sc.b7S [])) hch)
     have hch2:Sc.Ch [] [(8,[41]),(8,[41])] []:=.cons (.of (.sign [41] [] (by decide) rfl)) (.cons (.of (.sign [41] [] (by decide) rfl)) (.nil _))
     obtain⟨hk,hcs⟩:=Sc.said hch1 hch2 hy2 g8 hr
     have hcs1:Sc.Cs [] w []:=by
      cases hcs with
      | cons k1 k2 =>
       rw[Sc.b8W k1 rfl]at k2
       cases k2 with
       | cons k3 k4 =>
        rw[Sc.b8W k3 rfl]at k4
        exact k4
     have hln:l.length<=3000:=by
      have:=b3f (([40,40]++Sc.spW w)++[41,41])
      rw[hr]at this
      simpa [a4f]using this
     have hwl:w.length+4<=3000:=by
      have:=congrArg List.length hk
      simp only[Sc.KT,List.length_map,List.length_append,List.length_cons,List.length_nil]at this
      omega
     obtain⟨m,hm,hkm⟩:=Sc.say hcs1 (by have:=Sc.ly_sp (b:=[]) (t:=[]) .nil (.inl rfl) w [] (.inl rfl) hwne;simpa using this) (by omega) h8
     obtain⟨y1,e3,he1⟩:=expr_w (n:=1000000) (by omega) g.e hm hkm hz hc hd
     obtain⟨y2,e4,he2⟩:=expr_w (n:=1000000) (by omega) (c0A (c0A g.e)) hr (by rw[hk];simp) hz hc hd
     have hz2:y2.sz=x.sz:=by rw[<-b6m,he2,b6m]
     have hz1:y1.sz=x.sz:=by rw[<-b6m,he1,b6m]
     obtain⟨e5,_⟩:=c0x (g.p y2 he2) g.b (by omega) (n:=1000000) (by omega)
     have hl0:0<l.length:=by
      have:=congrArg List.length hk
      simp only[Sc.KT,List.length_map,List.length_append,List.length_cons,List.length_nil]at this
      omega
     rw[show(a4f (Sc.MR.done l)).length=l.length from by simp[a4f],a0v (by omega)]
     simp only[NF,e3,e4,decide_true,a9w (n:=1000000) (x:=y1) (y:=x) (by omega) (by omega) he1,a9w (n:=1000000) (x:=y2) (y:=x) (by omega) (by omega) he2,e5,a4Z]
 ·rfl
end Go.Proofs.YtjhfloacokgdiaaGreatDoor
namespace Go.Proofs.YtjhfloacokgdiaaGreatDoor
open Go Go.Vm
theorem c2h (s:Str):E env (.call 5 [.str s]) []=some (.ret (.bool true) []):=b1q.ok (c0g s)
end Go.Proofs.YtjhfloacokgdiaaGreatDoor
