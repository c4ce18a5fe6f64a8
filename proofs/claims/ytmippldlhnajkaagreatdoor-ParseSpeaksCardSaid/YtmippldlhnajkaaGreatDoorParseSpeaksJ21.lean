/- What the functions under ParseSpeaks compute, step by step, as functions in Lean: texts that were built one by one, joined. -/
import Derived.Test.YtmippldlhnajkaaGreatDoorParseSpeaksJ20
set_option maxRecDepth 100000
set_option maxHeartbeats 20000000
set_option linter.unusedSimpArgs false
set_option linter.unusedVariables false
set_option linter.unusedSectionVars false
namespace Go.Proofs.YtmippldlhnajkaaGreatDoor
open Go Go.Vm
section
variable {s:Str} {a:Int} {x y z b c:Nod} {l:List Nod} {t:Typ}
theorem b7n (hs:s.length<=20000)(H:∀x∈l,RE x):RE ⟨56,s,0,zT,[],l,a⟩:=fun n n' w hn hn' hw=>by
 simp only[SZ]at hn hn' hw
 have hl:=V3 l
 have ih1:=fun w=>a5y (n:=n-1-1-1-1) (n':=n'-1-1) (Φ:=j3.fs (n-1-1-1-1)) (Ψ:=j6.fs (n'-1-1)) (l:=l) (by omega) (fun x hx w hw=>H x hx _ _ w (by have:=Z4 hx;omega) (by have:=Z4 hx;omega) hw) (n-1-1-1-1) (n'-1-1) 0 w (by omega) (by omega) (Nat.zero_le _)
 simp only[List.drop_zero,Int.natCast_zero]at ih1
 exact pn
theorem E_method (hs:s.length<=20000)(hx:RE x)(H:∀x∈l,RE x):RE ⟨57,s,0,zT,[],x::l,a⟩:=fun n n' w hn hn' hw=>by
 simp only[SZ]at hn hn' hw
 have hl:=V3 l
 have ih1:=fun w=>a5y (n:=n-1-1-1-1) (n':=n'-1-1-1) (Φ:=j3.fs (n-1-1-1-1)) (Ψ:=j6.fs (n'-1-1-1)) (l:=l) (by omega) (fun x hx w hw=>H x hx _ _ w (by have:=Z4 hx;omega) (by have:=Z4 hx;omega) hw) (n-1-1-1-1) (n'-1-1-1) 0 w (by omega) (by omega) (Nat.zero_le _)
 simp only[List.drop_zero,Int.natCast_zero]at ih1
 exact pn
theorem E_apply (hx:RE x)(H:∀x∈l,RE x):RE ⟨60,[],0,zT,[],x::l,a⟩:=fun n n' w hn hn' hw=>by
 simp only[SZ]at hn hn' hw
 have hl:=V3 l
 have ih1:=fun w=>a5y (n:=n-1-1-1-1) (n':=n'-1-1-1) (Φ:=j3.fs (n-1-1-1-1)) (Ψ:=j6.fs (n'-1-1-1)) (l:=l) (by omega) (fun x hx w hw=>H x hx _ _ w (by have:=Z4 hx;omega) (by have:=Z4 hx;omega) hw) (n-1-1-1-1) (n'-1-1-1) 0 w (by omega) (by omega) (Nat.zero_le _)
 simp only[List.drop_zero,Int.natCast_zero]at ih1
 exact pn
theorem E_list (H:∀x∈l,RE x):RE ⟨67,[],0,zT,[],l,a⟩:=fun n n' w hn hn' hw=>by
 simp only[SZ]at hn hn' hw
 have hl:=V3 l
 have ih1:=fun w=>b6L (n:=n-1-1) (n':=n'-1) (Φ:=j3.fs (n-1-1)) (Ψ:=j6.fs (n'-1)) (op:=67) (s:=[]) (k:=0) (t:=zT) (ts:=[]) (a:=a) (l:=l) (by omega) (fun x hx w hw=>H x hx _ _ w (by have:=Z4 hx;omega) (by have:=Z4 hx;omega) hw) (n-1-1) (n'-1) 0 w (by omega) (by omega) (Nat.zero_le _)
 simp only[List.drop_zero,Int.natCast_zero]at ih1
 exact pn
theorem E_stat0 (hs:s.length<=20000)(hg:GT t):RE ⟨58,s,0,t,[],[],a⟩:=fun n n' w hn hn' hw=>by
 simp only[SZ]at hn hn' hw
 exact pn
theorem E_stat1 (hs:s.length<=20000)(hg:GT t)(H:∀x∈l,RE x):RE ⟨58,s,1,t,[],l,a⟩:=fun n n' w hn hn' hw=>by
 simp only[SZ]at hn hn' hw
 have hl:=V3 l
 have ih1:=fun w=>a5y (n:=n-1-1-1-1) (n':=n'-1-1) (Φ:=j3.fs (n-1-1-1-1)) (Ψ:=j6.fs (n'-1-1)) (l:=l) (by omega) (fun x hx w hw=>H x hx _ _ w (by have:=Z4 hx;omega) (by have:=Z4 hx;omega) hw) (n-1-1-1-1) (n'-1-1) 0 w (by omega) (by omega) (Nat.zero_le _)
 simp only[List.drop_zero,Int.natCast_zero]at ih1
 exact pn
theorem E_make (hg:GT t)(H:∀x∈l,RE x):RE ⟨59,[],0,t,[],l,a⟩:=fun n n' w hn hn' hw=>by
 simp only[SZ]at hn hn' hw
 have hl:=V3 l
 have ih1:=fun w=>a5y (n:=n-1-1-1-1) (n':=n'-1-1) (Φ:=j3.fs (n-1-1-1-1)) (Ψ:=j6.fs (n'-1-1)) (l:=l) (by omega) (fun x hx w hw=>H x hx _ _ w (by have:=Z4 hx;omega) (by have:=Z4 hx;omega) hw) (n-1-1-1-1) (n'-1-1) 0 w (by omega) (by omega) (Nat.zero_le _)
 simp only[List.drop_zero,Int.natCast_zero]at ih1
 exact pn
theorem E_text (hs:s.length<=20000):RE ⟨52,s,0,zT,[],[],a⟩:=fun n n' w hn hn' hw=>by
 simp only[SZ]at hn hn' hw
 obtain⟨h1,h2⟩:=escs hs
 have e1:cat [34] (Rp.esc s)=some ([34]++Rp.esc s):=b4R (by simp only[List.length_singleton];omega)
 have e2:cat ([34]++Rp.esc s) [34]=some ([34]++Rp.esc s++[34]):=b4R (by simp only[List.length_singleton,List.length_append];omega)
 simp (disch:=omega) only[fe1,fr1,Q7,a0e,h1,NF,e1,e2]
 exact pn
theorem E_truth {k:Int}:RE ⟨51,[],k,zT,[],[],a⟩:=fun n n' w hn hn' hw=>by
 simp only[SZ]at hn hn' hw
 simp (disch:=omega) only[fe1,fr1,Q7,a0e,a0W,a4F]
 cases eqB k 1<;>exact pn
theorem E_int {k:Int}(hk:0<=k)(hk2:k<=9223372036854775807):RE ⟨50,[],k,zT,[],[],a⟩:=fun n n' w hn hn' hw=>by
 simp only[SZ]at hn hn' hw
 have h:=b5a (b8n (n:=k) (by omega))
 have e0:=itoas (n:=k) (by omega)
 have e:ltB k 0=false:=Y5 (by omega)
 simp (disch:=omega) only[fe1,fr1,Q7,a0e,a0H,e0,e]
 exact pn
theorem S_let0 {k:Int}(hs:s.length<=20000)(hg:t.kind=0∨GT t):RS ⟨21,s,k,t,[],[],a⟩:=fun n n' w hn hn' hw=>by
 simp only[SZ]at hn hn' hw
 rcases Classical.em (t.kind=0)with h|h
 ·have e:=a3T h
  rcases Classical.em (k=1)with rfl|hk
  ·simp (disch:=omega) only[fe4,fr4,G6,P9,e]
   exact pn
  ·have e2:=a0J hk
   simp (disch:=omega) only[fe4,fr4,G6,P9,e,e2]
   exact pn
 ·have e:=a0J h
  have hg:=hg.resolve_left h
  rcases Classical.em (k=1)with rfl|hk
  ·simp (disch:=omega) only[fe4,fr4,G6,P9,e]
   exact pn
  ·have e2:=a0J hk
   simp (disch:=omega) only[fe4,fr4,G6,P9,e,e2]
   exact pn
theorem S_let1 {k:Int}(hs:s.length<=20000)(hg:t.kind=0∨GT t)(hx:RE x):RS ⟨21,s,k,t,[],[x],a⟩:=fun n n' w hn hn' hw=>by
 simp only[SZ]at hn hn' hw
 rcases Classical.em (t.kind=0)with h|h
 ·have e:=a3T h
  rcases Classical.em (k=1)with rfl|hk
  ·simp (disch:=omega) only[fe4,fr4,G6,P9,e]
   exact pn
  ·have e2:=a0J hk
   simp (disch:=omega) only[fe4,fr4,G6,P9,e,e2]
   exact pn
 ·have e:=a0J h
  have hg:=hg.resolve_left h
  rcases Classical.em (k=1)with rfl|hk
  ·simp (disch:=omega) only[fe4,fr4,G6,P9,e]
   exact pn
  ·have e2:=a0J hk
   simp (disch:=omega) only[fe4,fr4,G6,P9,e,e2]
   exact pn
theorem S_assign (hx:RE x)(hy:RE y):RS ⟨22,[],0,zT,[],[x,y],a⟩:=fun n n' w hn hn' hw=>by
 simp only[SZ]at hn hn' hw
 exact pn
theorem S_sole (hx:RE x):RS ⟨23,[],0,zT,[],[x],a⟩:=fun n n' w hn hn' hw=>by
 simp only[SZ]at hn hn' hw
 exact pn
theorem S_if2 (hx:RE x)(hy:RB b):RS ⟨24,[],0,zT,[],[x,b],a⟩:=fun n n' w hn hn' hw=>by
 simp only[SZ]at hn hn' hw
 exact pn
theorem S_if3 (hx:RE x)(hy:RB b)(hz:RB c)(hc:c.op=20):RS ⟨24,[],0,zT,[],[x,b,c],a⟩:=fun n n' w hn hn' hw=>by
 simp only[SZ]at hn hn' hw
 have he:decide (c.op=24)=false:=decide_eq_false (by omega)
 exact pn
theorem S_if4 (hx:RE x)(hy:RB b)(hz:RS c)(hc:c.op=24):RS ⟨24,[],0,zT,[],[x,b,c],a⟩:=fun n n' w hn hn' hw=>by
 simp only[SZ]at hn hn' hw
 have he:decide (c.op=24)=true:=decide_eq_true hc
 exact pn
theorem S_whil (hx:RE x)(hy:RB b):RS ⟨25,[],0,zT,[],[x,b],a⟩:=fun n n' w hn hn' hw=>by
 simp only[SZ]at hn hn' hw
 exact pn
theorem S_ret0:RS ⟨28,[],0,zT,[],[],a⟩:=fun n n' w hn hn' hw=>by
 simp only[SZ]at hn hn' hw
 exact pn
theorem S_ret1 (hx:RE x):RS ⟨28,[],0,zT,[],[x],a⟩:=fun n n' w hn hn' hw=>by
 simp only[SZ]at hn hn' hw
 exact pn
theorem S_throw (hx:RE x):RS ⟨29,[],0,zT,[],[x],a⟩:=fun n n' w hn hn' hw=>by
 simp only[SZ]at hn hn' hw
 exact pn
theorem S_do (hs:s.length<=20000)(hx:RB b)(hy:RB c):RS ⟨30,s,0,zT,[],[b,c],a⟩:=fun n n' w hn hn' hw=>by
 simp only[SZ]at hn hn' hw
 exact pn
theorem S_defer (hx:RB b):RS ⟨31,[],0,zT,[],[b],a⟩:=fun n n' w hn hn' hw=>by
 simp only[SZ]at hn hn' hw
 exact pn
theorem B_block (H:∀x∈l,RS x):RB ⟨20,[],0,zT,[],l,a⟩:=fun n n' w hn hn' hw=>by
 simp only[SZ]at hn hn' hw
 have hl:=V3 l
 have ih1:=fun w=>b5i (n:=n-1) (n':=n'-1) (Φ:=j3.fs (n-1)) (Ψ:=j6.fs (n'-1)) (op:=20) (s:=[]) (k:=0) (t:=zT) (ts:=[]) (a:=a) (op':=20) (s':=[]) (k':=0) (t':=zT) (ts':=[]) (a':=a) (l:=l) (by omega) (fun x hx w hw=>H x hx _ _ w (by have:=Z4 hx;omega) (by have:=Z4 hx;omega) hw) (n-1) (n'-1) 0 w (by omega) (by omega) (Nat.zero_le _)
 simp only[List.drop_zero,Int.natCast_zero]at ih1
 exact pn
theorem b9p {n n':Nat}{Φ:p9}{Ψ:F8}{op:Int}{s:Str}{k:Int}{t:Typ}{ts:List Typ}{a:Int}{l:List Nod}(hL:l.length<=1000000000)(H:∀x∈l,∀w,wt w+100000*x.sz<=2000000000000->S2 (E2 2 (100000*x.sz) w) (Φ.I8 x w) (Ψ.R8 w x)):∀(m m' i:Nat) (w:List Str),1<=i->l.length<m+i->l.length<m'+i->i<=l.length->wt w+100000*szN (l.drop i)+2<=2000000000000->S2 (E2 0 (100000*szN (l.drop i)) w) (X4 n Φ l m i w) (Y8 n' Ψ ⟨op,s,k,t,ts,l,a⟩ m' w i)
 | 0,_,_,_,_,_,_,_,_=>by omega
 | _+1,0,_,_,_,_,_,_,_=>by omega
 | m+1,m'+1,i,w,hi,h1,h2,h3,h4=>by
  rw[X4.eq_2,Y8.eq_2]
  rcases Nat.lt_or_ge i l.length with h|h
  ·have hl:=V3 (l.drop i)
   rw[List.length_drop]at hl
   have hd:=drop_eq h
   rw[hd,a4j]at h4 hl ⊢
   have ih1:=fun w=>H l[i] (List.getElem_mem h) w
   have ih2:=fun w=>b9p (n:=n) (n':=n') (Φ:=Φ) (Ψ:=Ψ) (op:=op) (s:=s) (k:=k) (t:=t) (ts:=ts) (a:=a) hL H m m' (i+1) w (by omega) (by omega) (by omega) (by omega)
   simp only[Z7 (show(i:Int)<(l.length:Int)by omega),Y3 h,P5 (show i<=1000000000000 by omega),Z7 (show(0:Int)<(i:Int)by omega),a0J (show ¬(i:Int)=0 by omega)]
   exact pt
  ·simp only[Y5 (show ¬(i:Int)<(l.length:Int)by omega)]
   exact pt
theorem b2a {op k:Int}(hs:s.length<=20000)(hk:-9223372036854775808<=k/\k<=9223372036854775807)(h:op=40∨op=41∨op=42∨op=43∨op=44):RP ⟨op,s,k,zT,[],[],a⟩:=fun n n' w hn hn' hw=>by
 simp only[SZ]at hn hn' hw
 simp (disch:=omega) only[fp1,fm1,Y4,a2b]
 rcases h with rfl|rfl|rfl|rfl|rfl
 ·exact pn
 ·exact pn
 ·have h:=b5a (b8n hk)
  have e0:=itoas hk
  simp only[a0H,e0]
  have e1:=sub1 hk
  rcases Classical.em (k<0)with hk|hk
  ·have e:=Z7 hk
   simp only[e,NF,e1]
   have:(List.drop 1 (Lib.itoa k)).length<=30:=by rw[List.length_drop];omega
   exact pn
  ·have e:=Y5 hk
   simp only[e,NF]
   exact pn
 ·simp only[a0W,a4F]
  cases eqB k 1<;>exact pn
 ·obtain⟨h1,h2⟩:=escs hs
  have e1:cat [34] (Rp.esc s)=some ([34]++Rp.esc s):=b4R (by simp only[List.length_singleton];omega)
  have e2:cat ([34]++Rp.esc s) [34]=some ([34]++Rp.esc s++[34]):=b4R (by simp only[List.length_singleton,List.length_append];omega)
  simp (disch:=omega) only[h1,NF,e1,e2]
  exact pn
theorem P_case (hs:s.length<=20000)(H:∀x∈l,RP x):RP ⟨45,s,0,zT,[],l,a⟩:=fun n n' w hn hn' hw=>by
 simp only[SZ]at hn hn' hw
 simp (disch:=omega) only[fp1,fm1,fp2,Y4,a2b,a05]
 obtain⟨m,hm⟩:∃m,n-1-1=m+2:=⟨n-1-1-2,by omega⟩
 obtain⟨m',hm'⟩:∃m,n'-1=m+2:=⟨n'-1-2,by omega⟩
 rcases l with _ |⟨x,l⟩
 ·rw[hm']
  simp only[Y8.eq_2,LIT]
  exact pn
 ·have hl:=V3 l
  simp only[SZ]at hn hn' hw ⊢
  have hq:=b9p (n:=n-1-1) (n':=n'-1) (Φ:=p9.fs (n-1-1)) (Ψ:=F8.fs (n'-1)) (op:=45) (s:=s) (k:=0) (t:=zT) (ts:=[]) (a:=a) (l:=x::l) (by simp only[List.length_cons];omega) (fun y hy w hw=>by
   have h1:=Z4 hy
   simp only[a4j]at h1
   exact H y hy _ _ w (by omega) (by omega) hw)
  have hx:=fun w=>H x (List.mem_cons_self ..) (n-1-1) (n'-1) w (by omega) (by omega)
  rw[hm,hm']at hq hx ⊢
  have ih1:=hx
  have ih2:=fun w=>hq (m+1) (m'+1) 1 w (Nat.le_refl _) (by simp only[List.length_cons];omega) (by simp only[List.length_cons];omega) (by simp only[List.length_cons];omega)
  simp only[List.drop_succ_cons,List.drop_zero,Int.natCast_one]at ih2
  have c3:eqB 0 0=true:=a3T rfl
  have u1:∀w,X4 (m+2) (p9.fs (m+2)) (x::l) (m+2) 0 w =((p9.fs (m+2)).I8 x w).bind fun w5=>X4 (m+2) (p9.fs (m+2)) (x::l) (m+1) 1 w5:=fun w=>by
   rw[X4.eq_2]
   simp only[LIT,NF]
  have u2:∀w,Y8 (m'+2) (F8.fs (m'+2)) ⟨45,s,0,zT,[],x::l,a⟩ (m'+2) w 0 =(app 16 w ([[40]]:List Str)).bind fun l16=>((F8.fs (m'+2)).R8 l16 x).bind fun w5=>Y8 (m'+2) (F8.fs (m'+2)) ⟨45,s,0,zT,[],x::l,a⟩ (m'+1) w5 1:=fun w=>by
   rw[Y8.eq_2]
   simp only[LIT,NF,c3]
  simp only[u1,u2,LIT]
  exact pn
theorem b9l {n n':Nat}{Φ:j3}{Ψ:j6}{x:Nod}{op:Int}{s:Str}{k:Int}{t:Typ}{ts:List Typ}{a:Int}{l:List Nod}(hL:l.length<=1000000000)(hn:∀x∈l,40*x.sz+40<=n/\40*x.sz+40<=n')(H:∀x∈l,∃p b a,x =⟨27,[],0,zT,[],[p,b],a⟩/\RP p /\ ∀w,wt w+100000*b.sz<=2000000000000->S2 (E2 2 (100000*b.sz) w) (Φ.I4 b w) (Ψ.J5 w b)):∀(m m' i:Nat) (w:List Str),l.length<m+i->l.length<m'+i->i<=l.length->wt w+100000*szN (l.drop i)+2<=2000000000000->S2 (E2 0 (100000*szN (l.drop i)) w) (a0z n Φ l m i w) (a0l n' Ψ ⟨op,s,k,t,ts,x::l,a⟩ m' w ((i+1:Nat):Int))
 | 0,_,_,_,_,_,_,_=>by omega
 | _+1,0,_,_,_,_,_,_=>by omega
 | m+1,m'+1,i,w,h1,h2,h3,h4=>by
  rw[a0z.eq_2,a0l.eq_2]
  have hc:(((x::l).length:Nat):Int) =(l.length:Int)+1:=by simp only[List.length_cons];omega
  rcases Nat.lt_or_ge i l.length with h|h
  ·have hl:=V3 (l.drop i)
   rw[List.length_drop]at hl
   have hd:=drop_eq h
   have hm:=List.getElem_mem h
   have hxi:idx' (x::l) ((i+1:Nat):Int)=some l[i]:=by rw[Y3 (by simp only[List.length_cons];omega)];simp
   have hn1:=hn _ hm
   obtain⟨p,b,a',e,hp,hb⟩:=H _ hm
   have ih4:=fun w=>b9l (n:=n) (n':=n') (Φ:=Φ) (Ψ:=Ψ) (x:=x) (op:=op) (s:=s) (k:=k) (t:=t) (ts:=ts) (a:=a) hL hn H m m' (i+1) w (by omega) (by omega) (by omega)
   simp only[hc,hxi,Z7 (show(i:Int)<(l.length:Int)by omega),Z7 (show((i+1:Nat):Int)<(l.length:Int)+1 by omega),Y3 h,P5 (show i<=1000000000000 by omega),P5 (show i+1<=1000000000000 by omega),a0J (show ¬((i+1:Nat):Int)=0 by omega)]
   rw[hd,a4j]at h4 hl ⊢
   rw[e]at h4 hl hn1 ⊢
   simp only[SZ]at h4 hl hn1 ⊢
   have ih1:=fun w hw=>hp n n' w (by omega) (by omega) hw
   have ih2:=hb
   have c2:eqB ((([p,b]:List Nod).length:Nat):Int) 2=true:=a3T rfl
   simp only[c2,LIT,NF]
   simp only[I8,R8]
   refine p_put ?_ ?_ ?_
   ·omega
   ·simp
   refine r_put ?_ ?_ ?_
   ·omega
   ·simp
   refine b2V (ih1 _ ?_) fun w1 h5=>?_
   ·simp only[WT];omega
   simp only[WT]at h5
   refine b2V (ih2 _ ?_) fun w2 h6=>?_
   ·omega
   exact e2_w (ih4 _ (by omega)) (by omega)
  ·simp only[hc,Y5 (show ¬(i:Int)<(l.length:Int)by omega),Y5 (show ¬((i+1:Nat):Int)<(l.length:Int)+1 by omega)]
   exact pt
theorem S_mat (hx:RE x)(H:∀x∈l,RA x):RS ⟨26,[],0,zT,[],x::l,a⟩:=fun n n' w hn hn' hw=>by
 simp only[SZ]at hn hn' hw
 have hl:=V3 l
 have ih1:=fun w=>b9l (n:=n-1) (n':=n'-1-1) (Φ:=j3.fs (n-1)) (Ψ:=j6.fs (n'-1-1)) (x:=x) (op:=26) (s:=[]) (k:=0) (t:=zT) (ts:=[]) (a:=a) (l:=l) (by omega) (fun y hy=>by have:=Z4 hy;omega) (fun y hy=>by
  obtain⟨p,b,a',e,h1,h2⟩:=H y hy
  have h3:=Z4 hy
  rw[e]at h3
  simp only[SZ]at h3
  exact⟨p,b,a',e,h1,fun w hw=>h2 _ _ w (by omega) (by omega) hw⟩) (n-1) (n'-1-1-1) 0 w (by omega) (by omega) (Nat.zero_le _)
 simp only[List.drop_zero,Int.natCast_zero,Nat.zero_add,Int.natCast_one]at ih1
 obtain⟨q,hq⟩:∃m,n'-1-1=m+2:=⟨n'-1-1-2,by omega⟩
 have u:∀w,a0l (n'-1-1) (j6.fs (n'-1-1)) ⟨26,[],0,zT,[],x::l,a⟩ (n'-1-1) w 0 =((j6.fs (n'-1-1)).F3 w x).bind fun r12=>(app 16 r12 ([[123]]:List Str)).bind fun r=>a0l (n'-1-1) (j6.fs (n'-1-1)) ⟨26,[],0,zT,[],x::l,a⟩ (n'-1-1-1) r 1:=fun w=>by
  have c3:eqB 0 0=true:=a3T rfl
  rw[show n'-1-1-1=q+1 by omega,hq]
  rw[a0l.eq_2]
  simp only[LIT,NF,c3]
 simp (disch:=omega) only[fe4,fr4,fr5,G6,P9,a0Y,u,LIT]
 exact pn
end
end Go.Proofs.YtmippldlhnajkaaGreatDoor
namespace Go.Proofs.YtmippldlhnajkaaGreatDoor
open Go Go.Vm
theorem b9o {n n':Nat}{l:List Nod}(hL:l.length<=1000000000)(H:∀x∈l,RM x/\40*x.sz+40<=n/\40*x.sz+40<=n'):∀(m m' i:Nat) (w:List Str),l.length<m+i->l.length<m'+i->i<=l.length->wt w+100000*szN (l.drop i)+2<=2000000000000->S2 (E2 0 (100000*szN (l.drop i)) w) (a11 n l m i w) (a4n n' l m' w i)
 | 0,_,_,_,_,_,_,_=>by omega
 | _+1,0,_,_,_,_,_,_=>by omega
 | m+1,m'+1,i,w,h1,h2,h3,h4=>by
  rw[a11.eq_2,a4n.eq_2]
  rcases Nat.lt_or_ge i l.length with h|h
  ·have hl:=V3 (l.drop i)
   rw[List.length_drop]at hl
   have hd:=drop_eq h
   obtain⟨⟨s,k,t,a,e,hs,hg⟩,hn,hn'⟩:=H _ (List.getElem_mem h)
   have ih2:=fun w=>b9o (n:=n) (n':=n') hL H m m' (i+1) w (by omega) (by omega) (by omega)
   simp only[Z7 (show(i:Int)<(l.length:Int)by omega),Y3 h,P5 (show i<=1000000000000 by omega)]
   rw[hd,a4j]at h4 hl ⊢
   rw[e]at h4 hl hn hn' ⊢
   simp only[SZ]at h4 hl hn hn' ⊢
   simp only[NF,a1G]
   have ih1:=fun w=>b8v (n:=n) (n':=n') hg w (by omega) (by omega)
   rcases Nat.eq_zero_or_pos i with rfl|hi
   ·simp only[Y5 (show ¬(0:Int)<((0:Nat):Int)by omega)]
    rcases Classical.em (k=1)with rfl|k1
    ·exact pt
    rcases Classical.em (k=2)with rfl|k2
    ·exact pt
    simp only[a0J k1,a0J k2]
    exact pt
   ·simp only[Z7 (show(0:Int)<(i:Int)by omega)]
    rcases Classical.em (k=1)with rfl|k1
    ·exact pt
    rcases Classical.em (k=2)with rfl|k2
    ·exact pt
    simp only[a0J k1,a0J k2]
    exact pt
  ·simp only[Y5 (show ¬(i:Int)<(l.length:Int)by omega)]
   exact pt
theorem app144 {l m:List Nod}(h1:l.length<=10000000000)(h2:m.length<=10):app 144 l m=some (l++m):=by
 refine c0G ?_
 omega
theorem of_p {n:Nat}{x:Nod}{o:Int}(hn:3<=n)(hL:x.l.length<=1000000000):∀(m i:Nat) (r:List Nod),x.l.length<m+i->i<=x.l.length->r.length<=i->a7s n x [o] m r i=some (r ++(x.l.drop i).filter fun y=>eqB y.op o)
 | 0,_,_,_,_,_=>by omega
 | m+1,i,r,h1,h2,h3=>by
  rw[a7s.eq_2]
  rcases Nat.lt_or_ge i x.l.length with h|h
  ·obtain⟨q,rfl⟩:∃q,n=q+2:=⟨n-2,by omega⟩
   have e1:idx' [o] 0=some o:=Y3 (l:=[o]) (i:=0) (by simp)
   have e2:w64 (0+1)=1:=by decide
   have c1:ltB 0 ((1:Nat):Int)=true:=Z7 (by omega)
   have c2:ltB 1 ((1:Nat):Int)=false:=Y5 (by omega)
   rw[Z7 (by omega),Y3 h,drop_eq h]
   simp only[NF,b0e.eq_2,List.length_singleton,c1,c2,e1,e2,List.filter_cons]
   cases hb:eqB x.l[i].op o
   ·simp only[NF,P5 (show i<=1000000000000 by omega)]
    exact of_p hn hL m (i+1) r (by omega) (by omega) (by omega)
   ·simp only[NF,app144 (show r.length<=10000000000 by omega) (show [x.l[i]].length<=10 by simp),P5 (show i<=1000000000000 by omega),if_true]
    rw[of_p hn hL m (i+1) (r++[x.l[i]]) (by omega) (by omega) (by simp;omega)]
    simp
  ·rw[Y5 (by omega),List.drop_of_length_le h]
   simp
theorem of_r {n:Nat}{x:Nod}{o:Int}(hn:3<=n)(hL:x.l.length<=1000000000):∀(m i:Nat) (r:List Nod),x.l.length<m+i->i<=x.l.length->r.length<=i->a7v n x [o] m r i=some (r ++(x.l.drop i).filter fun y=>eqB y.op o)
 | 0,_,_,_,_,_=>by omega
 | m+1,i,r,h1,h2,h3=>by
  rw[a7v.eq_2]
  rcases Nat.lt_or_ge i x.l.length with h|h
  ·obtain⟨q,rfl⟩:∃q,n=q+2:=⟨n-2,by omega⟩
   have e1:idx' [o] 0=some o:=Y3 (l:=[o]) (i:=0) (by simp)
   have e2:w64 (0+1)=1:=by decide
   have c1:ltB 0 ((1:Nat):Int)=true:=Z7 (by omega)
   have c2:ltB 1 ((1:Nat):Int)=false:=Y5 (by omega)
   rw[Z7 (by omega),drop_eq h]
   simp only[NF,b0t.eq_2,List.length_singleton,c1,c2,e1,e2,Y3 h,List.filter_cons]
   cases hb:eqB x.l[i].op o
   ·simp only[NF,P5 (show i<=1000000000000 by omega)]
    exact of_r hn hL m (i+1) r (by omega) (by omega) (by omega)
   ·simp only[NF,app144 (show r.length<=10000000000 by omega) (show [x.l[i]].length<=10 by simp),P5 (show i<=1000000000000 by omega),if_true]
    rw[of_r hn hL m (i+1) (r++[x.l[i]]) (by omega) (by omega) (by simp;omega)]
    simp
  ·rw[Y5 (by omega),List.drop_of_length_le h]
   simp
theorem ofs {n:Nat}{x:Nod}{o:Int}(hn:x.l.length+3<=n)(hL:x.l.length<=1000000000):a5M n x [o]=some (x.l.filter fun y=>eqB y.op o)/\a8o n x [o]=some (x.l.filter fun y=>eqB y.op o):=by
 unfold a5M a8o
 have h1:=of_p (n:=n) (x:=x) (o:=o) (by omega) hL n 0 [] (by omega) (Nat.zero_le _) (Nat.le_refl _)
 have h2:=of_r (n:=n) (x:=x) (o:=o) (by omega) hL n 0 [] (by omega) (Nat.zero_le _) (Nat.le_refl _)
 simp only[List.drop_zero,List.nil_append,Int.natCast_zero]at h1 h2
 rw[h1,h2]
 exact⟨rfl,rfl⟩
theorem filt {p:List Nod}{b:Nod}(hp:∀x∈p,RM x)(hb:b.op=20):(p++[b]).filter (fun y=>eqB y.op 10)=p/\(p++[b]).filter (fun y=>eqB y.op 20)=[b]:=by
 have h1:p.filter (fun y=>eqB y.op 10)=p:=List.filter_eq_self.2 fun x hx=>by
  obtain⟨s,k,t,a,rfl,_⟩:=hp x hx
  exact a3T rfl
 have h2:p.filter (fun y=>eqB y.op 20)=[]:=List.filter_eq_nil_iff.2 fun x hx=>by
  obtain⟨s,k,t,a,rfl,_⟩:=hp x hx
  rw[a0J (by simp)]
  simp
 have e1:eqB b.op 10=false:=a0J (by omega)
 have e2:eqB b.op 20=true:=a3T hb
 rw[List.filter_append,List.filter_append,h1,h2]
 simp only[List.filter_cons,List.filter_nil,e1,e2]
 simp
section
variable {s:Str} {a a':Int} {x y z b c:Nod} {l:List Nod} {t:Typ}
theorem b9m {n n':Nat}{Φ:j3}{Ψ:j6}{X Y:Nod}{j:Nat}{q:Int}{l:List Nod}(hX:X.l=l)(hY:idx' Y.l (j:Int)=some X)(hL:l.length<=1000000000)(H:∀x∈l,∀w,wt w+100000*x.sz<=2000000000000->S2 (E2 2 (100000*x.sz) w) (Φ.G8 x w) (Ψ.J5 w x)):∀(m m' i:Nat) (w:List Str),l.length<m+i->l.length<m'+i->i<=l.length->wt w+100000*szN (l.drop i)+2<=2000000000000->S2 (fun u v=>u.1=q/\v.2 =(j:Int)/\E2 0 (100000*szN (l.drop i)) w u.2 v.1) (a1h n Φ X m q i w) (a3c n' Ψ Y m' w (j:Int) i)
 | 0,_,_,_,_,_,_,_=>by omega
 | _+1,0,_,_,_,_,_,_=>by omega
 | m+1,m'+1,i,w,h1,h2,h3,h4=>by
  rw[a1h.eq_2,a3c.eq_2]
  simp only[hX,hY,NF]
  rcases Nat.lt_or_ge i l.length with h|h
  ·have hl:=V3 (l.drop i)
   rw[List.length_drop]at hl
   have hd:=drop_eq h
   rw[hd,a4j]at h4 hl ⊢
   have ih1:=fun w=>H l[i] (List.getElem_mem h) w
   have ih4:=fun w=>b9m (n:=n) (n':=n') (Φ:=Φ) (Ψ:=Ψ) (X:=X) (Y:=Y) (j:=j) (q:=q) hX hY hL H m m' (i+1) w (by omega) (by omega) (by omega)
   simp only[Z7 (show(i:Int)<(l.length:Int)by omega),Y3 h,P5 (show i<=1000000000000 by omega),NF]
   refine b2V (ih1 _ (by omega)) fun w1 h5=>?_
   refine S2imp (ih4 _ (by omega)) fun u v h6=>⟨h6.1,h6.2.1,h6.2.2.1,?_⟩
   have:=h6.2.2.2
   omega
  ·simp only[Y5 (show ¬(i:Int)<(l.length:Int)by omega),NF]
   exact S2mk ⟨rfl,rfl,rfl,by show wt w+0<=_;omega⟩
theorem skip {n:Nat}{Ψ:j6}{Y:Nod}{p:List Nod}{b:Nod}(hY:Y.l=p++[b])(hp:∀x∈p,RM x)(hL:p.length<=1000000000):∀(d i m:Nat) (w:List Str),p.length=i+d->R7 n Ψ Y (m+d) w i=R7 n Ψ Y m w p.length
 | 0,i,m,w,h=>by rw[Nat.add_zero,h,Nat.add_zero]
 | d+1,i,m,w,h=>by
  have hi:i<p.length:=by omega
  have e:idx' (p++[b]) (i:Int)=some p[i]:=by rw[Y3 (by simp;omega)];simp[hi]
  obtain⟨s,k,t,a,e2,_⟩:=hp _ (List.getElem_mem hi)
  rw[show m+(d+1) =(m+d)+1 by omega,R7.eq_2,hY,Z7 (by simp;omega)]
  simp only[e,e2,NF,a4N,Int.reduceEq,decide_false,P5 (show i<=1000000000000 by omega)]
  rw[skip hY hp hL d (i+1) m w (by omega)]
theorem E_clos {p bl:List Nod}(hg:GT t)(hp:∀x∈p,RM x)(hb:∀x∈bl,RS x):RE ⟨63,[],0,t,[],p++[⟨20,[],0,zT,[],bl,a'⟩],a⟩:=fun n n' w hn hn' hw=>by
 simp only[SZ]at hn hn' hw ⊢
 have hl:=V3 p
 have hl2:=V3 bl
 have hf:=filt (b:=⟨20,[],0,zT,[],bl,a'⟩) hp rfl
 have o1:a5M (n-1-1) ⟨63,[],0,t,[],p++[⟨20,[],0,zT,[],bl,a'⟩],a⟩ [10]=some p:=by rw[(ofs (o:=10) (by simp only[List.length_append,List.length_singleton];omega) (by simp only[List.length_append,List.length_singleton];omega)).1];exact congrArg some hf.1
 have o2:a5M (n-1-1) ⟨63,[],0,t,[],p++[⟨20,[],0,zT,[],bl,a'⟩],a⟩ [20]=some [⟨20,[],0,zT,[],bl,a'⟩]:=by rw[(ofs (o:=20) (by simp only[List.length_append,List.length_singleton];omega) (by simp only[List.length_append,List.length_singleton];omega)).1];exact congrArg some hf.2
 have o3:a8o (n'-1-1) ⟨63,[],0,t,[],p++[⟨20,[],0,zT,[],bl,a'⟩],a⟩ [10]=some p:=by rw[(ofs (o:=10) (by simp only[List.length_append,List.length_singleton];omega) (by simp only[List.length_append,List.length_singleton];omega)).2];exact congrArg some hf.1
 have ih1:=fun w=>b9o (n:=n-1-1) (n':=n'-1-1) (l:=p) (by omega) (fun x hx=>⟨hp x hx,by have:=Z4 hx;omega,by have:=Z4 hx;omega⟩) (n-1-1) (n'-1-1) 0 w (by omega) (by omega) (Nat.zero_le _)
 simp only[List.drop_zero,Int.natCast_zero]at ih1
 have hr:∀w,wt w+100000*t.sz+10<=2000000000000->S2 (E2 0 (100000*t.sz+3) w) (a1v (n-1-1) t w) (a5f (n'-1-1) w t):=fun w hw=>by
  unfold a1v a5f
  rcases Classical.em (t.kind=4)with h|h
  ·rw[a3T h]
   exact pt
  ·rw[a0J h]
   have ih1:=fun w=>b8v (n:=n-1-1) (n':=n'-1-1) hg w (by omega) (by omega)
   exact pt
 have ih2:=hr
 have hc:=fun w=>b9m (n:=n-1-1) (n':=n'-1-1) (Φ:=j3.fs (n-1-1)) (Ψ:=j6.fs (n'-1-1)) (X:=⟨20,[],0,zT,[],bl,a'⟩) (Y:=⟨63,[],0,t,[],p++[⟨20,[],0,zT,[],bl,a'⟩],a⟩) (j:=p.length) (q:=0) (l:=bl) rfl (by show idx' (p++_) _=_;rw[Y3 (by simp)];simp) (by omega) (fun x hx w hw=>hb x hx _ _ w (by have:=Z4 hx;omega) (by have:=Z4 hx;omega) hw) (n-1-1) (n'-1-1) 0 w (by omega) (by omega) (Nat.zero_le _)
 simp only[List.drop_zero,Int.natCast_zero]at hc
 have ih3:∀w,wt w+100000*szN bl+2<=2000000000000->S2 (E2 0 (100000*szN bl) w) (N7 (n-1-1) (j3.fs (n-1-1)) [⟨20,[],0,zT,[],bl,a'⟩] (n-1-1) 0 w) (R7 (n'-1-1) (j6.fs (n'-1-1)) ⟨63,[],0,t,[],p++[⟨20,[],0,zT,[],bl,a'⟩],a⟩ (n'-1-1) w 0):=fun w hw=>by
  obtain⟨v1,v2,g1,g2,g3,g4,g5,g6⟩:=hc w hw
  obtain⟨u1,u2⟩:=v1
  obtain⟨u3,u4⟩:=v2
  have g3:u1=0:=g3
  have g4:u4 =(p.length:Int):=g4
  have g5:u2=u3:=g5
  subst g3 g4 g5
  have hk:=skip (n:=n'-1-1) (Ψ:=j6.fs (n'-1-1)) (Y:=⟨63,[],0,t,[],p++[⟨20,[],0,zT,[],bl,a'⟩],a⟩) rfl hp (by omega) p.length 0 (n'-1-1-p.length) w (by omega)
  rw[show n'-1-1-p.length+p.length=n'-1-1 by omega]at hk
  simp only[Int.natCast_zero]at hk
  rw[hk]
  generalize hM:n-1-1=M at *
  generalize hM':n'-1-1=M' at *
  obtain⟨q,hq⟩:∃q,M'-p.length=q+2:=⟨M'-p.length-2,by omega⟩
  obtain⟨q',hq'⟩:∃q,M=q+2:=⟨M-2,by omega⟩
  have e1:idx' (p++[(⟨20,[],0,zT,[],bl,a'⟩:Nod)]) (p.length:Int)=some ⟨20,[],0,zT,[],bl,a'⟩:=by rw[Y3 (by simp)];simp
  have e2:ltB (p.length:Int) (((p++[(⟨20,[],0,zT,[],bl,a'⟩:Nod)]).length:Nat):Int)=true:=Z7 (by simp;omega)
  have e3:ltB ((p.length+1:Nat):Int) (((p++[(⟨20,[],0,zT,[],bl,a'⟩:Nod)]).length:Nat):Int)=false:=Y5 (by simp)
  have e4:N7 M (j3.fs M) [⟨20,[],0,zT,[],bl,a'⟩] M 0 w=some u2:=by
   have e5:∀v,N7 M (j3.fs M) [⟨20,[],0,zT,[],bl,a'⟩] (q'+1) 1 v=some v:=fun v=>by
    rw[N7.eq_2]
    simp only[LIT,NF]
   rw[show N7 M (j3.fs M) [⟨20,[],0,zT,[],bl,a'⟩] M 0 w=N7 M (j3.fs M) [⟨20,[],0,zT,[],bl,a'⟩] (q'+1+1) 0 w by rw[<-hq'],N7.eq_2]
   simp only[LIT,NF,g1,e5]
  have e6:R7 M' (j6.fs M') ⟨63,[],0,t,[],p++[⟨20,[],0,zT,[],bl,a'⟩],a⟩ (M'-p.length) w (p.length:Int)=some u2:=by
   have e5:∀v,R7 M' (j6.fs M') ⟨63,[],0,t,[],p++[⟨20,[],0,zT,[],bl,a'⟩],a⟩ (q+1) v ((p.length+1:Nat):Int)=some v:=fun v=>by
    rw[R7.eq_2]
    simp only[e3,NF]
   rw[hq,R7.eq_2]
   simp only[e1,e2,NF,a4N,Int.reduceEq,decide_true,g2,e5,P5 (show p.length<=1000000000000 by omega)]
  rw[e4,e6]
  exact e2_ok rfl g6
 have c1:ltB (0:Int) ((0:Nat):Int)=false:=Y5 (by omega)
 simp (disch:=omega) only[fe1,fe3,fr1,fr3,Q7,a0y,a0e,a1R,a6n,a2G,a2X,o1,o2,o3,NF]
 have hz:eqB (((p++[(⟨20,[],0,zT,[],bl,a'⟩:Nod)]).length:Nat):Int) 0=false:=a0J (by simp;omega)
 simp only[hz,NF,a4N,Int.reduceEq,decide_true,decide_false]
 have he:True=True:=rfl
 exact pt
end
end Go.Proofs.YtmippldlhnajkaaGreatDoor
namespace Go.Proofs.YtmippldlhnajkaaGreatDoor
open Go Go.Vm
theorem b9n {n n':Nat}{Φ:j3}{Ψ:j6}{op:Int}{s:Str}{k:Int}{t:Typ}{ts:List Typ}{a:Int}{l:List Nod}(hL:l.length<=1000000000)(h3:3<=l.length)(hS:∀x∈l,x.s.length<=20000)(H:∀x∈l,∀w,wt w+100000*x.sz<=2000000000000->S2 (E2 2 (100000*x.sz) w) (Φ.w9 x w) (Ψ.F3 w x)):∀(m m' i:Nat) (w:List Str),l.length<m+i->l.length<m'+i->i<=l.length->wt w+100000*szN (l.drop i)+2<=2000000000000->S2 (E2 0 (100000*szN (l.drop i)) w) (a1F n Φ ⟨op,s,k,t,ts,l,a⟩ m i w) (a3O n' Ψ ⟨op,s,k,t,ts,l,a⟩ m' w i)
 | 0,_,_,_,_,_,_,_=>by omega
 | _+1,0,_,_,_,_,_,_=>by omega
 | m+1,m'+1,i,w,h1,h2,h4,h5=>by
  rw[a1F.eq_2,a3O.eq_2]
  rcases Nat.lt_or_ge i l.length with h|h
  ·have hl:=V3 (l.drop i)
   rw[List.length_drop]at hl
   have hd:=drop_eq h
   rw[hd,a4j]at h5 hl ⊢
   have hm:=List.getElem_mem h
   have hz:=Nod.a7y l[i]
   have ih1:=fun w=>H l[i] hm w
   have ih2:=fun w=>b9n (n:=n) (n':=n') (Φ:=Φ) (Ψ:=Ψ) (op:=op) (s:=s) (k:=k) (t:=t) (ts:=ts) (a:=a) hL h3 hS H m m' (i+1) w (by omega) (by omega) (by omega)
   have g2:(!eqB 2 0)=true:=by rw[a0J (by omega)];rfl
   simp only[Z7 (show(i:Int)<(l.length:Int)by omega),Y3 h,P5 (show i<=1000000000000 by omega),g2,gdO,NF]
   cases eqB (Int.tmod (i:Int) 2) 1
   ·obtain⟨⟨e1,e2⟩,e3⟩:=escs (hS _ hm)
    have c1:∀a:UInt8,cat [a] (Rp.esc l[i].s)=some ([a]++Rp.esc l[i].s):=fun a=>b4R (by simp only[List.length_singleton];omega)
    have c2:∀a:UInt8,cat ([a]++Rp.esc l[i].s) [34]=some ([a]++Rp.esc l[i].s++[34]):=fun a=>b4R (by simp only[List.length_singleton,List.length_append];omega)
    have c3:∀a:UInt8,cat ([a]++Rp.esc l[i].s) [92,40]=some ([a]++Rp.esc l[i].s++[92,40]):=fun a=>b4R (by simp only[List.length_singleton,List.length_append,List.length_cons,List.length_nil];omega)
    rcases Nat.eq_zero_or_pos i with rfl|hi
    ·have a1:eqB ((0:Nat):Int) 0=true:=a3T rfl
     have a2:ltB 0 ((0:Nat):Int)=false:=Y5 (by omega)
     simp only[a1,a2,Z7 (show((0+1:Nat):Int)<(l.length:Int)by omega),NF,e1,e2,c1,c3]
     exact pt
    ·have a1:=a0J (show ¬(i:Int)=0 by omega)
     have a2:=Z7 (show(0:Int)<(i:Int)by omega)
     have a3:w64 ((l.length:Int)-1) =(l.length:Int)-1:=b3y (by omega) (by omega)
     rcases Classical.em (i+1=l.length)with hj|hj
     ·simp only[a1,a2,a3,a3T (show(i:Int) =(l.length:Int)-1 by omega),Y5 (show ¬((i+1:Nat):Int)<(l.length:Int)by omega),NF,e1,e2,c1,c2]
      exact pt
     ·simp only[a1,a2,a3,a0J (show ¬(i:Int) =(l.length:Int)-1 by omega),Z7 (show((i+1:Nat):Int)<(l.length:Int)by omega),NF,e1,e2,c1,c3]
      exact pt
   ·simp only[NF]
    exact pt
  ·simp only[Y5 (show ¬(i:Int)<(l.length:Int)by omega)]
   exact pt
theorem E_interp {l:List Nod}{a:Int}(hS:∀x∈l,x.s.length<=20000)(H:∀x∈l,RE x)(h3:3<=l.length):RE ⟨53,[],0,zT,[],l,a⟩:=fun n n' w hn hn' hw=>by
 simp only[SZ]at hn hn' hw
 have hl:=V3 l
 have ih1:=fun w=>b9n (n:=n-1-1) (n':=n'-1) (Φ:=j3.fs (n-1-1)) (Ψ:=j6.fs (n'-1)) (op:=53) (s:=[]) (k:=0) (t:=zT) (ts:=[]) (a:=a) (l:=l) (by omega) h3 hS (fun x hx w hw=>H x hx _ _ w (by have:=Z4 hx;omega) (by have:=Z4 hx;omega) hw) (n-1-1) (n'-1) 0 w (by omega) (by omega) (Nat.zero_le _)
 simp only[List.drop_zero,Int.natCast_zero]at ih1
 simp (disch:=omega) only[fe1,fe2,fr1,Q7,a0O,a0e]
 exact pn
theorem G.rr {m:Nat}{x:Nod}(h:G m x):RR m x:=by
 induction h with
 | int h h2=>exact E_int h h2
 | truth=>exact E_truth
 | text h=>exact E_text h
 | interp h1 h2 _ ih=>exact E_interp (fun x hx=>(h1 x hx).slen) ih h2
 | name h=>exact E_name h
 | use h=>exact E_use h
 | list _ ih=>exact E_list ih
 | clos h1 _ _ ih1 ih2=>exact E_clos h1 ih1 ih2
 | bin h _ _ ih1 ih2=>exact E_bin h ih1 ih2
 | un h _ ih =>
  rcases h with rfl|rfl
  ·exact E_not ih
  ·exact E_neg ih
 | field h _ ih=>exact E_field h ih
 | call h _ ih=>exact b7n h ih
 | method h _ _ ih1 ih2=>exact E_method h ih1 ih2
 | apply _ _ ih1 ih2=>exact E_apply ih1 ih2
 | stat0 h1 h2=>exact E_stat0 h1 h2
 | stat1 h1 h2 _ ih=>exact E_stat1 h1 h2 ih
 | make h _ ih=>exact E_make h ih
 | arg _ ih=>exact ih
 | lend _ ih=>exact E_lend ih
 | let0 h1 h2=>exact S_let0 h1 h2
 | let1 h1 h2 _ ih=>exact S_let1 h1 h2 ih
 | assign _ _ ih1 ih2=>exact S_assign ih1 ih2
 | sole _ ih=>exact S_sole ih
 | if2 _ _ ih1 ih2=>exact S_if2 ih1 ih2.1
 | if3 _ _ _ ih1 ih2 ih3=>exact S_if3 ih1 ih2.1 ih3.1 ih3.2
 | if4 _ _ _ h ih1 ih2 ih3=>exact S_if4 ih1 ih2.1 ih3 h
 | whil _ _ ih1 ih2=>exact S_whil ih1 ih2.1
 | mat _ _ ih1 ih2=>exact S_mat ih1 ih2
 | ret0=>exact S_ret0
 | ret1 _ ih=>exact S_ret1 ih
 | throws _ ih=>exact S_throw ih
 | doc h _ _ ih1 ih2=>exact S_do h ih1.1 ih2.1
 | defer _ ih=>exact S_defer ih.1
 | block _ ih=>exact⟨B_block ih,rfl⟩
 | wild=>exact b2a (Nat.zero_le _) (by omega) (.inl rfl)
 | bnd h=>exact b2a h (by omega) (.inr (.inl rfl))
 | pint h=>exact b2a (Nat.zero_le _) h (.inr (.inr (.inl rfl)))
 | ptruth h=>exact b2a (Nat.zero_le _) h (.inr (.inr (.inr (.inl rfl))))
 | ptext h=>exact b2a h (by omega) (.inr (.inr (.inr (.inr rfl))))
 | pcase h _ ih=>exact P_case h ih
 | param h1 h2=>exact⟨_,_,_,_,rfl,h1,h2⟩
 | arm _ _ ih1 ih2=>exact⟨_,_,_,rfl,ih1,ih2.1⟩
theorem jt_len:∀r:List Str,(Lib.joinTail [32] r).length<=wt r
 | []=>Nat.le_refl _
 | x::r=>by
  have:=jt_len r
  simp only[Lib.joinTail,List.map_cons,List.flatten_cons,List.length_append,List.length_cons,List.length_nil,wt]at this ⊢
  omega
theorem join_len:∀l:List Str,(Lib.join l [32]).length<=wt l
 | []=>Nat.le_refl _
 | x::r=>by
  rw[Lib.join_cons,List.length_append]
  have:=jt_len r
  simp only[wt]
  omega
theorem joins {l:List Str}(h:wt l<=2000000000000):b3K l [32]=some (Lib.join l [32]):=by
 have h1:=c2f l
 have h2:=join_len l
 unfold b3K leN
 rw[decide_eq_true (show l.length<=140737488355328 by omega),decide_eq_true (show(Lib.join l [32]).length<=140737488355328 by omega)]
 rfl
theorem c1I {x:Nod}(h:G 0 x){n:Nat}(hn:40*x.sz+40<=n)(hs:x.sz<=10000000):∃r,a1o n x=some r/\a1p n x=some r:=by
 obtain⟨a,b,e1,e2,rfl,h3⟩:=(show RE x from h.rr) n n [] hn hn (by simp only[wt];omega)
 simp only[wt]at h3
 refine⟨Lib.join a [32],?_,?_⟩
 ·unfold a1o w9 a1j
  rw[e1]
  simp only[NF,joins (show wt a<=2000000000000 by omega)]
 ·unfold a1p F3
  rw[e2]
  simp only[NF,joins (show wt a<=2000000000000 by omega)]
theorem c3R {t:Typ}(h:GT t){n:Nat}(hn:10*t.sz+10<=n)(hs:t.sz<=10000000):∃r,a0K n t=some r/\a0L n t=some r:=by
 obtain⟨a,b,e1,e2,rfl,h3⟩:=typ_ok h n n [] hn hn (by simp only[wt];omega)
 simp only[wt]at h3
 refine⟨Lib.join a [32],?_,?_⟩
 ·unfold a0K F9 a1j
  rw[e1]
  simp only[NF,joins (show wt a<=2000000000000 by omega)]
 ·unfold a0L L9
  rw[e2]
  simp only[NF,joins (show wt a<=2000000000000 by omega)]
end Go.Proofs.YtmippldlhnajkaaGreatDoor
namespace Go.Proofs.YtmippldlhnajkaaGreatDoor
open Go Go.Vm
def isT (l:List Tok)(kind:Int)(s:Str)(k:Nat):Bool:=match l[k]? with
 | some t=>eqB t.kind kind&&eqS t.text s
 | none=>false
def isK (l:List Tok)(kind:Int)(k:Nat):Bool:=match l[k]? with
 | some t=>eqB t.kind kind
 | none=>false
def hereT (l:List Tok)(size:Int)(k:Nat):Int:=match l[k]? with
 | some t=>t.at_
 | none=>size
def a8B (l:List Tok)(k:Nat):Str:=match l[k]? with
 | some t=>t.text
 | none=>[]
theorem a8J {l:List Tok}{kind:Int}{s:Str}{k:Nat}(h:isT l kind s k=true):k<l.length:=by
 unfold isT at h
 rcases Nat.lt_or_ge k l.length with h1|h1
 ·exact h1
 ·rw[List.getElem?_eq_none h1]at h;cases h
theorem b3c {l:List Tok}{kind:Int}{k:Nat}(h:isK l kind k=true):k<l.length:=by
 unfold isK at h
 rcases Nat.lt_or_ge k l.length with h1|h1
 ·exact h1
 ·rw[List.getElem?_eq_none h1]at h;cases h
section
variable {l:List Tok} (hl:l.length<=3000) {k:Nat} (hk:k<=l.length) (size pl:Int)
include hl hk
theorem a6x:F4 l size k pl=some (hereT l size k):=by
 unfold F4 hereT
 rcases Nat.lt_or_ge k l.length with h|h
 ·rw[Z7 (by omega),cond_true,Y3 h,Option.bind_some,List.getElem?_eq_getElem h]
 ·rw[Y5 (by omega),cond_false,List.getElem?_eq_none h]
theorem b2n (kind:Int)(s:Str):D6 kind s l size k pl=some (isT l kind s k):=by
 unfold D6 isT
 rcases Nat.lt_or_ge k l.length with h|h
 ·rw[Z7 (by omega),cond_true,Y3 h,Option.bind_some,Option.bind_some,List.getElem?_eq_getElem h]
  simp only
  cases eqB l[k].kind kind<;>simp
 ·rw[Y5 (by omega),cond_false,List.getElem?_eq_none h]
theorem b95 (kind:Int):L8 kind l size k pl=some (isK l kind k):=by
 unfold L8 isK
 rcases Nat.lt_or_ge k l.length with h|h
 ·rw[Z7 (by omega),cond_true,Y3 h,Option.bind_some,List.getElem?_eq_getElem h]
 ·rw[Y5 (by omega),cond_false,List.getElem?_eq_none h]
end
structure Cx (l:List Tok):Prop where
 hl:l.length<=3000
 txt:∀k,(a8B l k).length<=20000
 int:∀k,isK l 3 k=true -> ∃v:Int,0<=v/\v<=9223372036854775807 /\ ∀n,10000<=n->a0j n (a8B l k)=some v
theorem num_nil {n:Nat}(hn:1<=n):a0j n []=some 0:=by
 obtain⟨m,rfl⟩:∃m,n=m+1:=⟨n-1,by omega⟩
 simp[a0j,a2c,ltB]
def S1 {A:Type}(Q:A->Prop)(p:Option A):Prop:=∃a,p=some a/\Q a
theorem b04 {A:Type}{Q:A->Prop}{a:A}(h:Q a):S1 Q (some a):=⟨a,rfl,h⟩
theorem app_n {α:Type}{b:Nat}{l m:List α}(hl:l.length<=100000)(hm:m.length<=100000)(hb:b<=1000):app b l m=some (l++m):=by
 refine c0G ?_
 have:(l.length+m.length)*(b+1)<=200000*1001:=Nat.mul_le_mul (by omega) (by omega)
 omega
theorem eta_t (t:Typ):(⟨t.kind,t.name,t.n,t.args⟩:Typ)=t:=by cases t;rfl
theorem all_nil {α:Type}{P:α->Prop}:∀x∈([]:List α),P x:=fun x h=>by cases h
theorem b4k {α:Type}{P:α->Prop}{a b:List α}(h1:∀x∈a,P x)(h2:∀x∈b,P x):∀x∈a++b,P x:=fun x h=>by
 rcases List.mem_append.1 h with h|h
 ·exact h1 x h
 ·exact h2 x h
theorem b4l {α:Type}{P:α->Prop}{a:α}(h:P a):∀x ∈ [a],P x:=fun x hx=>by
 rcases List.mem_singleton.1 hx with rfl
 exact h
section
variable {l:List Tok} {size:Int} (C:Cx l) {A:Type} {Q:A->Prop}
include C
theorem b9b (kind:Int)(s:Str)(k:Nat):isT l kind s k =(isK l kind k&&eqS (a8B l k) s):=by
 unfold isT isK a8B
 cases l[k]? <;> rfl
theorem c1g {kind kind':Int}{k:Nat}(h:isK l kind k=true)(hn:kind≠kind'):isK l kind' k=false:=by
 unfold isK at h ⊢
 cases hq:l[k]? with
 | none=>rfl
 | some t =>
  rw[hq]at h
  have h:t.kind=kind:=by simpa [eqB]using h
  show eqB t.kind kind'=false
  exact a0J (by rw[h];exact hn)
theorem b7N {kind:Int}{s u:Str}{k:Nat}(h:isT l kind s k=true)(hn:s≠u):isT l kind u k=false:=by
 rw[b9b C,Bool.and_eq_true]at h
 have h2:a8B l k=s:=by simpa [eqS]using h.2
 rw[b9b C,h.1,h2]
 simp[eqS,hn]
theorem b7M {kind kind':Int}{s u:Str}{k:Nat}(h:isT l kind s k=true)(hn:kind≠kind'):isT l kind' u k=false:=by
 rw[b9b C,Bool.and_eq_true]at h
 rw[b9b C,c1g C h.1 hn,Bool.false_and]
theorem isT_kk {kind kind':Int}{s:Str}{k:Nat}(h:isT l kind s k=true)(hn:kind≠kind'):isK l kind' k=false:=by
 rw[b9b C,Bool.and_eq_true]at h
 exact c1g C h.1 hn
theorem c1Z {k:Nat}{pl:Int}{a:UInt8}{r:Str}{f:Bool×Int->Option A}(hk:k<=l.length)(h1:isT l 8 (a::r) k=true->k+1<=l.length->S1 Q (f (true,((k+1:Nat):Int))))(h2:isT l 8 (a::r) k=false->S1 Q (f (false,(k:Int)))):S1 Q ((o8 (a::r) l size (k:Int) pl).bind f):=by
 have h3:=b2n C.hl hk size pl 8 (a::r)
 have hl:=C.hl
 cases hb:isT l 8 (a::r) k with
 | true =>
  have hlt:=a8J hb
  rw[hb]at h3
  have e:o8 (a::r) l size (k:Int) pl=some (true,((k+1:Nat):Int)):=by
   unfold o8 Y9;rw[h3];simp only[Option.bind_some,cond_true,cond_false,P5 (show k<=1000000000000 by omega)]
  rw[e]
  exact h1 hb hlt
 | false =>
  rw[hb]at h3
  have e:o8 (a::r) l size (k:Int) pl=some (false,(k:Int)):=by
   unfold o8 Y9;rw[h3];simp only[Option.bind_some,cond_true,cond_false,P5 (show k<=1000000000000 by omega)]
  rw[e]
  exact h2 hb
theorem t_signT {k:Nat}{pl:Int}{a:UInt8}{r:Str}{f:Bool×Int->Option A}(h:isT l 8 (a::r) k=true)(h1:k+1<=l.length->S1 Q (f (true,((k+1:Nat):Int)))):S1 Q ((o8 (a::r) l size (k:Int) pl).bind f):=c1Z C (Nat.le_of_lt (a8J h)) (fun _=>h1) fun h2=>by rw[h]at h2;cases h2
theorem b8u {k:Nat}{pl:Int}{a:UInt8}{r:Str}{f:Bool×Int->Option A}(hk:k<=l.length)(h:isT l 8 (a::r) k=false)(h2:S1 Q (f (false,(k:Int)))):S1 Q ((o8 (a::r) l size (k:Int) pl).bind f):=c1Z C hk (fun h1=>by rw[h]at h1;cases h1) fun _=>h2
theorem t_key {k:Nat}{pl:Int}{a:UInt8}{r:Str}{f:Bool×Int->Option A}(hk:k<=l.length)(h1:isT l 9 (a::r) k=true->k+1<=l.length->S1 Q (f (true,((k+1:Nat):Int))))(h2:isT l 9 (a::r) k=false->S1 Q (f (false,(k:Int)))):S1 Q ((D8 (a::r) l size (k:Int) pl).bind f):=by
 have h3:=b2n C.hl hk size pl 9 (a::r)
 have hl:=C.hl
 cases hb:isT l 9 (a::r) k with
 | true =>
  have hlt:=a8J hb
  rw[hb]at h3
  have e:D8 (a::r) l size (k:Int) pl=some (true,((k+1:Nat):Int)):=by
   unfold D8 Y9;rw[h3];simp only[Option.bind_some,cond_true,cond_false,P5 (show k<=1000000000000 by omega)]
  rw[e]
  exact h1 hb hlt
 | false =>
  rw[hb]at h3
  have e:D8 (a::r) l size (k:Int) pl=some (false,(k:Int)):=by
   unfold D8 Y9;rw[h3];simp only[Option.bind_some,cond_true,cond_false,P5 (show k<=1000000000000 by omega)]
  rw[e]
  exact h2 hb
theorem t_keyT {k:Nat}{pl:Int}{a:UInt8}{r:Str}{f:Bool×Int->Option A}(h:isT l 9 (a::r) k=true)(h1:k+1<=l.length->S1 Q (f (true,((k+1:Nat):Int)))):S1 Q ((D8 (a::r) l size (k:Int) pl).bind f):=t_key C (Nat.le_of_lt (a8J h)) (fun _=>h1) fun h2=>by rw[h]at h2;cases h2
theorem c1Y {k:Nat}{pl:Int}{a:UInt8}{r:Str}{f:Bool×Int->Option A}(hk:k<=l.length)(h:isT l 9 (a::r) k=false)(h2:S1 Q (f (false,(k:Int)))):S1 Q ((D8 (a::r) l size (k:Int) pl).bind f):=t_key C hk (fun h1=>by rw[h]at h1;cases h1) fun _=>h2
theorem b8s {k:Nat}{pl:Int}{a:UInt8}{r:Str}{f:Bool->Option A}(hk:k<=l.length)(h1:isT l 8 (a::r) k=true->k+1<=l.length->S1 Q (f true))(h2:isT l 8 (a::r) k=false->S1 Q (f false)):S1 Q ((D6 8 (a::r) l size (k:Int) pl).bind f):=by
 have h3:=b2n C.hl hk size pl 8 (a::r)
 have hl:=C.hl
 cases hb:isT l 8 (a::r) k with
 | true =>
  have hlt:=a8J hb
  rw[hb]at h3
  have e:D6 8 (a::r) l size (k:Int) pl=some true:=by
   exact h3
  rw[e]
  exact h1 hb hlt
 | false =>
  rw[hb]at h3
  have e:D6 8 (a::r) l size (k:Int) pl=some false:=by
   exact h3
  rw[e]
  exact h2 hb
theorem t_next8T {k:Nat}{pl:Int}{a:UInt8}{r:Str}{f:Bool->Option A}(h:isT l 8 (a::r) k=true)(h1:k+1<=l.length->S1 Q (f true)):S1 Q ((D6 8 (a::r) l size (k:Int) pl).bind f):=b8s C (Nat.le_of_lt (a8J h)) (fun _=>h1) fun h2=>by rw[h]at h2;cases h2
theorem b53 {k:Nat}{pl:Int}{a:UInt8}{r:Str}{f:Bool->Option A}(hk:k<=l.length)(h:isT l 8 (a::r) k=false)(h2:S1 Q (f false)):S1 Q ((D6 8 (a::r) l size (k:Int) pl).bind f):=b8s C hk (fun h1=>by rw[h]at h1;cases h1) fun _=>h2
theorem b8t {k:Nat}{pl:Int}{a:UInt8}{r:Str}{f:Bool->Option A}(hk:k<=l.length)(h1:isT l 9 (a::r) k=true->k+1<=l.length->S1 Q (f true))(h2:isT l 9 (a::r) k=false->S1 Q (f false)):S1 Q ((D6 9 (a::r) l size (k:Int) pl).bind f):=by
 have h3:=b2n C.hl hk size pl 9 (a::r)
 have hl:=C.hl
 cases hb:isT l 9 (a::r) k with
 | true =>
  have hlt:=a8J hb
  rw[hb]at h3
  have e:D6 9 (a::r) l size (k:Int) pl=some true:=by
   exact h3
  rw[e]
  exact h1 hb hlt
 | false =>
  rw[hb]at h3
  have e:D6 9 (a::r) l size (k:Int) pl=some false:=by
   exact h3
  rw[e]
  exact h2 hb
theorem t_next9T {k:Nat}{pl:Int}{a:UInt8}{r:Str}{f:Bool->Option A}(h:isT l 9 (a::r) k=true)(h1:k+1<=l.length->S1 Q (f true)):S1 Q ((D6 9 (a::r) l size (k:Int) pl).bind f):=b8t C (Nat.le_of_lt (a8J h)) (fun _=>h1) fun h2=>by rw[h]at h2;cases h2
theorem b54 {k:Nat}{pl:Int}{a:UInt8}{r:Str}{f:Bool->Option A}(hk:k<=l.length)(h:isT l 9 (a::r) k=false)(h2:S1 Q (f false)):S1 Q ((D6 9 (a::r) l size (k:Int) pl).bind f):=b8t C hk (fun h1=>by rw[h]at h1;cases h1) fun _=>h2
theorem c2a {k:Nat}{pl kd:Int}{f:Str×Bool×Int->Option A}(hk:k<=l.length)(h1:isK l kd k=true->k+1<=l.length->S1 Q (f (a8B l k,true,((k+1:Nat):Int))))(h2:isK l kd k=false->S1 Q (f ([],false,(k:Int)))):S1 Q ((D7 kd l size (k:Int) pl).bind f):=by
 have h3:=b95 C.hl hk size pl kd
 have hl:=C.hl
 cases hb:isK l kd k with
 | true =>
  have hlt:=b3c hb
  have ht:a8B l k=l[k].text:=by unfold a8B;rw[List.getElem?_eq_getElem hlt]
  rw[hb]at h3
  have e:D7 kd l size (k:Int) pl=some (a8B l k,true,((k+1:Nat):Int)):=by
   unfold D7;rw[h3];simp only[Y3 hlt,Option.bind_some,cond_true,cond_false,P5 (show k<=1000000000000 by omega),ht]
  rw[e]
  exact h1 hb hlt
 | false =>
  rw[hb]at h3
  have e:D7 kd l size (k:Int) pl=some ([],false,(k:Int)):=by
   unfold D7;rw[h3];simp only[Option.bind_some,cond_true,cond_false,P5 (show k<=1000000000000 by omega)]
  rw[e]
  exact h2 hb
theorem t_wordT {k:Nat}{pl kd:Int}{f:Str×Bool×Int->Option A}(h:isK l kd k=true)(h1:k+1<=l.length->S1 Q (f (a8B l k,true,((k+1:Nat):Int)))):S1 Q ((D7 kd l size (k:Int) pl).bind f):=c2a C (Nat.le_of_lt (b3c h)) (fun _=>h1) fun h2=>by rw[h]at h2;cases h2
theorem c3k {k:Nat}{pl kd:Int}{f:Str×Bool×Int->Option A}(hk:k<=l.length)(h:isK l kd k=false)(h2:S1 Q (f ([],false,(k:Int)))):S1 Q ((D7 kd l size (k:Int) pl).bind f):=c2a C hk (fun h1=>by rw[h]at h1;cases h1) fun _=>h2
theorem c0e {k:Nat}{pl kd:Int}{f:Bool->Option A}(hk:k<=l.length)(h1:isK l kd k=true->k+1<=l.length->S1 Q (f true))(h2:isK l kd k=false->S1 Q (f false)):S1 Q ((L8 kd l size (k:Int) pl).bind f):=by
 have h3:=b95 C.hl hk size pl kd
 have hl:=C.hl
 cases hb:isK l kd k with
 | true =>
  have hlt:=b3c hb
  have ht:a8B l k=l[k].text:=by unfold a8B;rw[List.getElem?_eq_getElem hlt]
  rw[hb]at h3
  have e:L8 kd l size (k:Int) pl=some true:=by
   exact h3
  rw[e]
  exact h1 hb hlt
 | false =>
  rw[hb]at h3
  have e:L8 kd l size (k:Int) pl=some false:=by
   exact h3
  rw[e]
  exact h2 hb
theorem t_isKT {k:Nat}{pl kd:Int}{f:Bool->Option A}(h:isK l kd k=true)(h1:k+1<=l.length->S1 Q (f true)):S1 Q ((L8 kd l size (k:Int) pl).bind f):=c0e C (Nat.le_of_lt (b3c h)) (fun _=>h1) fun h2=>by rw[h]at h2;cases h2
theorem t_isKF {k:Nat}{pl kd:Int}{f:Bool->Option A}(hk:k<=l.length)(h:isK l kd k=false)(h2:S1 Q (f false)):S1 Q ((L8 kd l size (k:Int) pl).bind f):=c0e C hk (fun h1=>by rw[h]at h1;cases h1) fun _=>h2
theorem t_off {k:Nat}{pl:Int}{f:Int->Option A}(hk:k<=l.length)(h:S1 Q (f (hereT l size k))):S1 Q ((F4 l size (k:Int) pl).bind f):=by rw[a6x C.hl hk size pl];exact h
theorem t_app {α:Type}{b:Nat}{x y:List α}{f:List α->Option A}(h1:x.length<=100000)(h2:y.length<=100000)(hb:b<=1000)(h:S1 Q (f (x++y))):S1 Q ((app b x y).bind f):=by rw[app_n h1 h2 hb];exact h
theorem t_num {k n:Nat}{f:Int->Option A}(hk:isK l 3 k=true)(hn:10000<=n)(h:∀v,0<=v->v<=9223372036854775807->S1 Q (f v)):S1 Q ((a0j n (a8B l k)).bind f):=by
 obtain⟨v,h0,h2,h1⟩:=C.int k hk
 rw[h1 n hn]
 exact h v h0 h2
theorem t_num0 {n:Nat}{f:Int->Option A}(hn:10000<=n)(h:S1 Q (f 0)):S1 Q ((a0j n []).bind f):=by
 rw[num_nil (by omega)]
 exact h
def QT (l:List Tok)(k:Nat):Typ×Bool×Int->Prop:=fun a=>∃n:Nat,a.2.2=n/\k<=n/\n<=l.length/\(a.2.1=true->GT a.1/\a.1.sz+k<=n)
theorem qt_ok {k q:Nat}{t:Typ}(h1:k<=q)(h2:q<=l.length)(h3:GT t)(h4:t.sz+k<=q):S1 (QT l k) (some (t,true,(q:Int))):=b04 ⟨q,rfl,h1,h2,fun _=>⟨h3,h4⟩⟩
theorem qt_no {k q:Nat}{t:Typ}(h1:k<=q)(h2:q<=l.length):S1 (QT l k) (some (t,false,(q:Int))):=b04 ⟨q,rfl,h1,h2,fun h=>by cases h⟩
theorem t_typ {k:Nat}{p:Option (Typ×Bool×Int)}{f:Typ×Bool×Int->Option A}(H:S1 (QT l k) p)(hok:∀(t:Typ) (q:Nat),k<q->q<=l.length->t.sz+k<=q->GT t->S1 Q (f (t,true,(q:Int))))(hno:∀(t:Typ) (q:Nat),k<=q->q<=l.length->S1 Q (f (t,false,(q:Int)))):S1 Q (p.bind f):=by
 obtain⟨⟨t,b,q'⟩,rfl,q,rfl,h1,h2,h3⟩:=H
 cases b with
 | true =>
  obtain⟨h3,h4⟩:=h3 rfl
  have h4:t.sz+k<=q:=h4
  have:=t.a7y
  exact hok t q (by omega) h2 h4 h3
 | false=>exact hno t q h1 h2
def QTs (l:List Tok)(k:Nat):List Typ×Bool×Int->Prop:=fun a=>∃n:Nat,a.2.2=n/\k<=n/\n<=l.length/\(a.2.1=true ->(∀x∈a.1,GT x)/\szT a.1+k<=n)
theorem qts_ok {k q:Nat}{t:List Typ}(h1:k<=q)(h2:q<=l.length)(h3:∀x∈t,GT x)(h4:szT t+k<=q):S1 (QTs l k) (some (t,true,(q:Int))):=b04 ⟨q,rfl,h1,h2,fun _=>⟨h3,h4⟩⟩
theorem qts_no {k q:Nat}{t:List Typ}(h1:k<=q)(h2:q<=l.length):S1 (QTs l k) (some (t,false,(q:Int))):=b04 ⟨q,rfl,h1,h2,fun h=>by cases h⟩
theorem t_typs {k:Nat}{p:Option (List Typ×Bool×Int)}{f:List Typ×Bool×Int->Option A}(H:S1 (QTs l k) p)(hok:∀(t:List Typ) (q:Nat),k<=q->q<=l.length->szT t+k<=q->t.length<=3000 ->(∀x∈t,GT x)->S1 Q (f (t,true,(q:Int))))(hno:∀(t:List Typ) (q:Nat),k<=q->q<=l.length->S1 Q (f (t,false,(q:Int)))):S1 Q (p.bind f):=by
 obtain⟨⟨t,b,q'⟩,rfl,q,rfl,h1,h2,h3⟩:=H
 cases b with
 | true =>
  obtain⟨h3,h4⟩:=h3 rfl
  have h4:szT t+k<=q:=h4
  have:=a9e t
  have:=C.hl
  exact hok t q h1 h2 h4 (by omega) h3
 | false=>exact hno t q h1 h2
def QP (l:List Tok)(P:Nod->Prop)(k:Nat):Nod×Bool×Int->Prop:=fun a=>∃n:Nat,a.2.2=n/\k<=n/\n<=l.length/\(a.2.1=true->P a.1/\a.1.sz+4*k<=4*n)
theorem qp_ok {P:Nod->Prop}{k q:Nat}{x:Nod}(h1:k<=q)(h2:q<=l.length)(h4:x.sz+4*k<=4*q)(h3:P x):S1 (QP l P k) (some (x,true,(q:Int))):=b04 ⟨q,rfl,h1,h2,fun _=>⟨h3,h4⟩⟩
theorem qp_no {P:Nod->Prop}{k q:Nat}{x:Nod}(h1:k<=q)(h2:q<=l.length):S1 (QP l P k) (some (x,false,(q:Int))):=b04 ⟨q,rfl,h1,h2,fun h=>by cases h⟩
theorem t_nop {P:Nod->Prop}{k:Nat}{p:Option (Nod×Bool×Int)}{f:Nod×Bool×Int->Option A}(H:S1 (QP l P k) p)(hok:∀(x:Nod) (q:Nat),k<q->q<=l.length->x.sz+4*k<=4*q->P x->S1 Q (f (x,true,(q:Int))))(hno:∀(x:Nod) (q:Nat),k<=q->q<=l.length->S1 Q (f (x,false,(q:Int)))):S1 Q (p.bind f):=by
 obtain⟨⟨x,b,q'⟩,rfl,q,rfl,h1,h2,h3⟩:=H
 cases b with
 | true =>
  obtain⟨h3,h4⟩:=h3 rfl
  have h4:x.sz+4*k<=4*q:=h4
  have:=x.a7y
  exact hok x q (by omega) h2 h4 h3
 | false=>exact hno x q h1 h2
def QN (l:List Tok)(P:Nod->Prop)(k:Nat):Nod×Bool×Int×Int->Prop:=fun a=>∃n:Nat,a.2.2.1=n/\k<=n/\n<=l.length/\(a.2.1=true->P a.1/\a.1.sz+4*k<=4*n)
theorem qn_ok {P:Nod->Prop}{k q:Nat}{x:Nod}{pl:Int}(h1:k<=q)(h2:q<=l.length)(h4:x.sz+4*k<=4*q)(h3:P x):S1 (QN l P k) (some (x,true,(q:Int),pl)):=b04 ⟨q,rfl,h1,h2,fun _=>⟨h3,h4⟩⟩
theorem qn_no {P:Nod->Prop}{k q:Nat}{x:Nod}{pl:Int}(h1:k<=q)(h2:q<=l.length):S1 (QN l P k) (some (x,false,(q:Int),pl)):=b04 ⟨q,rfl,h1,h2,fun h=>by cases h⟩
theorem b1A {P:Nod->Prop}{k:Nat}{p:Option (Nod×Bool×Int×Int)}{f:Nod×Bool×Int×Int->Option A}(H:S1 (QN l P k) p)(hok:∀(x:Nod) (q:Nat) (pl:Int),k<q->q<=l.length->x.sz+4*k<=4*q->P x->S1 Q (f (x,true,(q:Int),pl)))(hno:∀(x:Nod) (q:Nat) (pl:Int),k<=q->q<=l.length->S1 Q (f (x,false,(q:Int),pl))):S1 Q (p.bind f):=by
 obtain⟨⟨x,b,q',pl⟩,rfl,q,rfl,h1,h2,h3⟩:=H
 cases b with
 | true =>
  obtain⟨h3,h4⟩:=h3 rfl
  have h4:x.sz+4*k<=4*q:=h4
  have:=x.a7y
  exact hok x q pl (by omega) h2 h4 h3
 | false=>exact hno x q pl h1 h2
theorem qn_w {P P':Nod->Prop}{k:Nat}{p:Option (Nod×Bool×Int×Int)}(H:S1 (QN l P k) p)(h:∀x,P x->P' x):S1 (QN l P' k) p:=by
 obtain⟨a,e,n,h1,h2,h3,h4⟩:=H
 exact⟨a,e,n,h1,h2,h3,fun h5=>⟨h _ (h4 h5).1,(h4 h5).2⟩⟩
def QL (l:List Tok)(P:Nod->Prop)(m0:List Nod)(k:Nat):List Nod×Bool×Int×Int->Prop:=fun a=>∃n:Nat,a.2.2.1=n/\k<=n/\n<=l.length/\(a.2.1=true -> ∃ys,a.1=m0++ys/\(∀x∈ys,P x)/\szN ys+4*k<=4*n)
theorem ql_ok {P:Nod->Prop}{m0:List Nod}{k q:Nat}{xs ys:List Nod}{pl:Int}(h1:k<=q)(h2:q<=l.length)(h5:xs=m0++ys)(h4:szN ys+4*k<=4*q)(h3:∀x∈ys,P x):S1 (QL l P m0 k) (some (xs,true,(q:Int),pl)):=b04 ⟨q,rfl,h1,h2,fun _=>⟨ys,h5,h3,h4⟩⟩
theorem ql_no {P:Nod->Prop}{m0:List Nod}{k q:Nat}{xs:List Nod}{pl:Int}(h1:k<=q)(h2:q<=l.length):S1 (QL l P m0 k) (some (xs,false,(q:Int),pl)):=b04 ⟨q,rfl,h1,h2,fun h=>by cases h⟩
theorem t_list {P:Nod->Prop}{m0:List Nod}{k:Nat}{p:Option (List Nod×Bool×Int×Int)}{f:List Nod×Bool×Int×Int->Option A}(H:S1 (QL l P m0 k) p)(hok:∀(ys:List Nod) (q:Nat) (pl:Int),k<=q->q<=l.length->szN ys+4*k<=4*q->ys.length<=12000 ->(∀x∈ys,P x)->S1 Q (f (m0++ys,true,(q:Int),pl)))(hno:∀(xs:List Nod) (q:Nat) (pl:Int),k<=q->q<=l.length->S1 Q (f (xs,false,(q:Int),pl))):S1 Q (p.bind f):=by
 obtain⟨⟨xs,b,q',pl⟩,rfl,q,rfl,h1,h2,h3⟩:=H
 cases b with
 | true =>
  obtain⟨ys,h5,h6,h4⟩:=h3 rfl
  have h5:xs=m0++ys:=h5
  have h4:szN ys+4*k<=4*q:=h4
  subst h5
  have:=V3 ys
  have:=C.hl
  exact hok ys q pl h1 h2 h4 (by omega) h6
 | false=>exact hno xs q pl h1 h2
def QM (l:List Tok)(P:Nod->Prop)(m0:List Nod)(k:Nat):List Nod×Bool×Int->Prop:=fun a=>∃n:Nat,a.2.2=n/\k<=n/\n<=l.length/\(a.2.1=true -> ∃ys,a.1=m0++ys/\(∀x∈ys,P x)/\szN ys+4*k<=4*n)
theorem qm_ok {P:Nod->Prop}{m0:List Nod}{k q:Nat}{xs ys:List Nod}(h1:k<=q)(h2:q<=l.length)(h5:xs=m0++ys)(h4:szN ys+4*k<=4*q)(h3:∀x∈ys,P x):S1 (QM l P m0 k) (some (xs,true,(q:Int))):=b04 ⟨q,rfl,h1,h2,fun _=>⟨ys,h5,h3,h4⟩⟩
theorem qm_no {P:Nod->Prop}{m0:List Nod}{k q:Nat}{xs:List Nod}(h1:k<=q)(h2:q<=l.length):S1 (QM l P m0 k) (some (xs,false,(q:Int))):=b04 ⟨q,rfl,h1,h2,fun h=>by cases h⟩
theorem b8r {P:Nod->Prop}{m0:List Nod}{k:Nat}{p:Option (List Nod×Bool×Int)}{f:List Nod×Bool×Int->Option A}(H:S1 (QM l P m0 k) p)(hok:∀(ys:List Nod) (q:Nat),k<=q->q<=l.length->szN ys+4*k<=4*q->ys.length<=12000 ->(∀x∈ys,P x)->S1 Q (f (m0++ys,true,(q:Int))))(hno:∀(xs:List Nod) (q:Nat),k<=q->q<=l.length->S1 Q (f (xs,false,(q:Int)))):S1 Q (p.bind f):=by
 obtain⟨⟨xs,b,q'⟩,rfl,q,rfl,h1,h2,h3⟩:=H
 cases b with
 | true =>
  obtain⟨ys,h5,h6,h4⟩:=h3 rfl
  have h5:xs=m0++ys:=h5
  have h4:szN ys+4*k<=4*q:=h4
  subst h5
  have:=V3 ys
  have:=C.hl
  exact hok ys q h1 h2 h4 (by omega) h6
 | false=>exact hno xs q h1 h2
def QX (l:List Tok)(k:Nat):List Nod×Bool×Int×Int->Prop:=fun a=>∃n:Nat,a.2.2.1=n/\k<=n/\n<=l.length/\(a.2.1=true -> ∃x ys,a.1=x::ys/\G 0 x/\(∀y∈ys,G 5 y)/\x.sz+szN ys+4*k<=4*n)
theorem qx_ok {k q:Nat}{x:Nod}{ys:List Nod}{pl:Int}(h1:k<=q)(h2:q<=l.length)(h4:x.sz+szN ys+4*k<=4*q)(h5:G 0 x)(h3:∀x∈ys,G 5 x):S1 (QX l k) (some (x::ys,true,(q:Int),pl)):=b04 ⟨q,rfl,h1,h2,fun _=>⟨x,ys,rfl,h5,h3,h4⟩⟩
theorem qx_no {k q:Nat}{xs:List Nod}{pl:Int}(h1:k<=q)(h2:q<=l.length):S1 (QX l k) (some (xs,false,(q:Int),pl)):=b04 ⟨q,rfl,h1,h2,fun h=>by cases h⟩
theorem t_mat {k:Nat}{p:Option (List Nod×Bool×Int×Int)}{f:List Nod×Bool×Int×Int->Option A}(H:S1 (QX l k) p)(hok:∀(x:Nod) (ys:List Nod) (q:Nat) (pl:Int),k<=q->q<=l.length->x.sz+szN ys+4*k<=4*q->G 0 x ->(∀x∈ys,G 5 x)->S1 Q (f (x::ys,true,(q:Int),pl)))(hno:∀(xs:List Nod) (q:Nat) (pl:Int),k<=q->q<=l.length->S1 Q (f (xs,false,(q:Int),pl))):S1 Q (p.bind f):=by
 obtain⟨⟨xs,b,q',pl⟩,rfl,q,rfl,h1,h2,h3⟩:=H
 cases b with
 | true =>
  obtain⟨x,ys,h5,h6,h7,h4⟩:=h3 rfl
  have h5:xs=x::ys:=h5
  have h4:x.sz+szN ys+4*k<=4*q:=h4
  subst h5
  exact hok x ys q pl h1 h2 h4 h6 h7
 | false=>exact hno xs q pl h1 h2
def QA (l:List Tok)(P:Nod->Prop)(m0:List Nod)(k:Nat):List Nod×Bool×Int×Int×List Nod->Prop:=fun a=>∃n:Nat,a.2.2.1=n/\k<=n/\n<=l.length/\(a.2.1=true -> ∃ys,a.1=m0++ys/\(∀x∈ys,P x)/\szN ys+4+4*k<=4*n)
theorem qa_ok {P:Nod->Prop}{m0:List Nod}{k q:Nat}{xs ys zs:List Nod}{pl:Int}(h1:k<=q)(h2:q<=l.length)(h5:xs=m0++ys)(h4:szN ys+4+4*k<=4*q)(h3:∀x∈ys,P x):S1 (QA l P m0 k) (some (xs,true,(q:Int),pl,zs)):=b04 ⟨q,rfl,h1,h2,fun _=>⟨ys,h5,h3,h4⟩⟩
theorem qa_no {P:Nod->Prop}{m0:List Nod}{k q:Nat}{xs zs:List Nod}{pl:Int}(h1:k<=q)(h2:q<=l.length):S1 (QA l P m0 k) (some (xs,false,(q:Int),pl,zs)):=b04 ⟨q,rfl,h1,h2,fun h=>by cases h⟩
theorem t_args {P:Nod->Prop}{m0:List Nod}{k:Nat}{p:Option (List Nod×Bool×Int×Int×List Nod)}{f:List Nod×Bool×Int×Int×List Nod->Option A}(H:S1 (QA l P m0 k) p)(hok:∀(ys zs:List Nod) (q:Nat) (pl:Int),k<q->q<=l.length->szN ys+4+4*k<=4*q->ys.length<=12000 ->(∀x∈ys,P x)->S1 Q (f (m0++ys,true,(q:Int),pl,zs)))(hno:∀(xs zs:List Nod) (q:Nat) (pl:Int),k<=q->q<=l.length->S1 Q (f (xs,false,(q:Int),pl,zs))):S1 Q (p.bind f):=by
 obtain⟨⟨xs,b,q',pl,zs⟩,rfl,q,rfl,h1,h2,h3⟩:=H
 cases b with
 | true =>
  obtain⟨ys,h5,h6,h4⟩:=h3 rfl
  have h5:xs=m0++ys:=h5
  have h4:szN ys+4+4*k<=4*q:=h4
  subst h5
  have:=V3 ys
  have:=C.hl
  exact hok ys zs q pl (by omega) h2 h4 (by omega) h6
 | false=>exact hno xs zs q pl h1 h2
end
theorem CD:(∀{α β:Type} (b:Bool) (x y:Option α) (f:α->Option β),(cond b x y).bind f=cond b (x.bind f) (y.bind f))/\(∀{α ρ β:Type} (b:Bool) (x y:Option (Lr α ρ)) (f:α->Option β) (o:ρ->Option β),bS (cond b x y) f o=cond b (bS x f o) (bS y f o)):=⟨fun b _ _ _=>by cases b<;>rfl,fun b _ _ _ _=>by cases b<;>rfl⟩
theorem t_if {A:Type}{Q:A->Prop}{b:Bool}{x y:Option A}(h1:b=true->S1 Q x)(h2:b=false->S1 Q y):S1 Q (cond b x y):=by
 cases b
 ·exact h2 rfl
 ·exact h1 rfl
theorem one {P:Prop}(x:P:=by
 repeat' first
 | with_reducible assumption
 | with_reducible exact all_nil
 | with_reducible refine b4k ?_ ?_
 | with_reducible refine b4l ?_
 | with_reducible intro _
 |(simp (disch:=omega) only[NF,a4N,Int.reduceEq,decide_true,decide_false,fin,P5,List.append_nil,List.nil_append,List.append_assoc,List.cons_append,eta_t])
 |(simp (disch:=omega) only[NF,a4N,Int.reduceEq,decide_true,decide_false,P5,List.append_nil,List.nil_append,List.append_assoc,List.cons_append,eta_t])
 | with_reducible refine ih ?_ ?_ ?_ rfl ?_ ?_|with_reducible refine ih ?_ ?_ ?_ ?_ ?_ ?_ ?_|with_reducible refine ih ?_ ?_ ?_ ?_ ?_ ?_|with_reducible refine ih ?_ ?_ ?_ ?_ ?_|with_reducible refine ih ?_ ?_ ?_ ?_
 | with_reducible refine lp1 ?_ ?_ ?_ ?_|with_reducible refine lp1 ?_ ?_ ?_ ?_ ?_|with_reducible refine lp1 ?_ ?_ ?_ ?_ ?_ ?_|with_reducible refine lp1 ?_ ?_ ?_ ?_ ?_ ?_ ?_|with_reducible refine lp1 ?_ ?_ ?_ ?_ ?_ ?_ ?_ ?_
 | with_reducible refine lp2 ?_ ?_ ?_ ?_|with_reducible refine lp2 ?_ ?_ ?_ ?_ ?_|with_reducible refine lp2 ?_ ?_ ?_ ?_ ?_ ?_|with_reducible refine lp2 ?_ ?_ ?_ ?_ ?_ ?_ ?_|with_reducible refine lp2 ?_ ?_ ?_ ?_ ?_ ?_ ?_ ?_
 | with_reducible refine hF ?_ ?_|with_reducible refine hF ?_ ?_ ?_|with_reducible refine hF ?_ ?_ ?_ ?_|with_reducible refine hF ?_ ?_ ?_ ?_ ?_|with_reducible refine hO ?_ ?_|with_reducible refine hO ?_ ?_ ?_|with_reducible refine hO ?_ ?_ ?_ ?_
 | with_reducible refine t_signT C (by assumption) (fun _=>?_)|with_reducible refine b8u C ?_ (by assumption) ?_|with_reducible refine b8u C ?_ (b7N C (by assumption) (by decide)) ?_|with_reducible refine b8u C ?_ (b7M C (by assumption) (by decide)) ?_
 | with_reducible refine t_keyT C (by assumption) (fun _=>?_)|with_reducible refine c1Y C ?_ (by assumption) ?_|with_reducible refine c1Y C ?_ (b7N C (by assumption) (by decide)) ?_|with_reducible refine c1Y C ?_ (b7M C (by assumption) (by decide)) ?_
 | with_reducible refine t_next8T C (by assumption) (fun _=>?_)|with_reducible refine b53 C ?_ (by assumption) ?_|with_reducible refine b53 C ?_ (b7N C (by assumption) (by decide)) ?_|with_reducible refine b53 C ?_ (b7M C (by assumption) (by decide)) ?_
 | with_reducible refine t_next9T C (by assumption) (fun _=>?_)|with_reducible refine b54 C ?_ (by assumption) ?_|with_reducible refine b54 C ?_ (b7N C (by assumption) (by decide)) ?_|with_reducible refine b54 C ?_ (b7M C (by assumption) (by decide)) ?_
 | with_reducible refine t_wordT C (by assumption) (fun _=>?_)|with_reducible refine c3k C ?_ (by assumption) ?_
 | with_reducible refine t_isKT C (by assumption) (fun _=>?_)|with_reducible refine t_isKF C ?_ (by assumption) ?_
 | with_reducible refine c3k C ?_ (isT_kk C (by assumption) (by decide)) ?_
 | with_reducible refine c1Z C ?_ (fun _ _=>?_) (fun _=>?_)
 | with_reducible refine t_key C ?_ (fun _ _=>?_) (fun _=>?_)
 | with_reducible refine b8s C ?_ (fun _ _=>?_) (fun _=>?_)
 | with_reducible refine b8t C ?_ (fun _ _=>?_) (fun _=>?_)
 | with_reducible refine c2a C ?_ (fun _ _=>?_) (fun _=>?_)
 | with_reducible refine c0e C ?_ (fun _ _=>?_) (fun _=>?_)
 | with_reducible refine t_off C ?_ ?_|with_reducible refine t_app C ?_ ?_ ?_ ?_|with_reducible refine t_num C (by assumption) ?_ ?_|with_reducible refine t_num0 C ?_ ?_
 | with_reducible refine t_typ C (pt1 ?_ ?_) ?_ ?_|with_reducible refine t_typ C (pt2 ?_ ?_) ?_ ?_|with_reducible refine t_typs C (pt3 ?_ ?_) ?_ ?_
 | with_reducible refine t_nop C (pp1 ?_ ?_) ?_ ?_|with_reducible refine t_nop C (pp2 ?_ ?_) ?_ ?_|with_reducible refine b8r C (pm1 ?_ ?_) ?_ ?_|with_reducible refine b8r C (pm2 ?_ ?_) ?_ ?_|with_reducible refine b8r C (pm3 ?_ ?_) ?_ ?_
 | with_reducible refine b1A C (pn1 ?_ ?_) ?_ ?_|with_reducible refine b1A C (pn2 ?_ ?_) ?_ ?_|with_reducible refine b1A C (pn3 ?_ ?_) ?_ ?_|with_reducible refine b1A C (pn4 ?_ ?_) ?_ ?_|with_reducible refine b1A C (pn5 ?_ ?_) ?_ ?_|with_reducible refine b1A C (pn6 ?_ ?_) ?_ ?_|with_reducible refine b1A C (pn7 ?_ ?_) ?_ ?_
 | with_reducible refine t_list C (pl1 ?_ ?_) ?_ ?_|with_reducible refine t_list C (pl2 ?_ ?_) ?_ ?_|with_reducible refine t_mat C (px1 ?_ ?_) ?_ ?_|with_reducible refine b1A C (pk1 (by assumption) ?_) ?_ ?_|with_reducible refine b1A C (pk2 (by assumption) ?_ ?_) ?_ ?_|with_reducible refine qx_ok C ?_ ?_ ?_ ?_ ?_|with_reducible refine qx_no C ?_ ?_|with_reducible refine t_args C (pa1 ?_ ?_ ?_) ?_ ?_|with_reducible refine t_place C ?_ (fun _=>?_)
 | with_reducible refine qt_ok C ?_ ?_ ?_ ?_|with_reducible refine qt_no C ?_ ?_|with_reducible refine qts_ok C ?_ ?_ ?_ ?_|with_reducible refine qts_no C ?_ ?_|with_reducible refine qp_ok C ?_ ?_ ?_ ?_|with_reducible refine qp_no C ?_ ?_|with_reducible refine qn_ok C ?_ ?_ ?_ ?_|with_reducible refine qn_no C ?_ ?_|with_reducible refine ql_ok C ?_ ?_ rfl ?_ ?_|with_reducible refine ql_ok C ?_ ?_ (List.append_nil _).symm ?_ ?_|with_reducible refine ql_ok C ?_ ?_ (List.nil_append _).symm ?_ ?_|with_reducible refine ql_no C ?_ ?_|with_reducible refine qm_ok C ?_ ?_ rfl ?_ ?_|with_reducible refine qm_ok C ?_ ?_ (List.append_nil _).symm ?_ ?_|with_reducible refine qm_ok C ?_ ?_ (List.nil_append _).symm ?_ ?_|with_reducible refine qm_no C ?_ ?_|with_reducible refine qa_ok C ?_ ?_ rfl ?_ ?_|with_reducible refine qa_ok C ?_ ?_ (List.append_nil _).symm ?_ ?_|with_reducible refine qa_ok C ?_ ?_ (List.nil_append _).symm ?_ ?_|with_reducible refine qa_no C ?_ ?_
 | with_reducible exact C.txt _
 | with_reducible exact Nat.zero_le _
 | with_reducible refine .lend ?_|with_reducible refine .arg ?_
 | with_reducible refine .int ?_ ?_|with_reducible exact .truth|with_reducible refine .text ?_|with_reducible refine .name ?_|with_reducible refine .use ?_|with_reducible refine .list ?_|with_reducible refine .clos ?_ ?_ ?_|with_reducible refine .bin ?_ ?_ ?_|with_reducible refine .un (.inl rfl) ?_|with_reducible refine .un (.inr rfl) ?_|with_reducible refine .field ?_ ?_|with_reducible refine .call ?_ ?_|with_reducible refine .method ?_ ?_ ?_|with_reducible refine .apply ?_ ?_|with_reducible refine .stat0 ?_ ?_|with_reducible refine .stat1 ?_ ?_ ?_|with_reducible refine .make ?_ ?_|with_reducible refine .lend ?_
 | with_reducible refine .let0 ?_ (.inl rfl)|with_reducible refine .let0 ?_ (.inr ?_)|with_reducible refine .let1 ?_ (.inl rfl) ?_|with_reducible refine .let1 ?_ (.inr ?_) ?_|with_reducible refine .assign ?_ ?_|with_reducible refine .sole ?_|with_reducible refine .if2 ?_ ?_|with_reducible refine .if3 ?_ (by assumption) (by assumption)|with_reducible refine .if4 ?_ (by assumption) (And.left (by assumption)) (And.right (by assumption))|with_reducible refine⟨?_,trivial⟩|with_reducible refine .whil ?_ ?_|with_reducible refine .mat ?_ ?_|with_reducible exact .ret0|with_reducible refine .ret1 ?_|with_reducible refine .throws ?_|with_reducible refine .doc ?_ ?_ ?_|with_reducible refine .defer ?_|with_reducible refine .block ?_
 | with_reducible exact .wild|with_reducible refine .bnd ?_|with_reducible refine .pint (w64_rng _)|with_reducible refine .pint ⟨?_,?_⟩|with_reducible refine .ptruth ⟨?_,?_⟩|with_reducible refine .ptext ?_|with_reducible refine .pcase ?_ ?_|with_reducible refine .param ?_ ?_|with_reducible refine .arm ?_ ?_
 | with_reducible refine GT.mk ?_ (fun h=>absurd h (kn _ _)) ?_|with_reducible refine GT.mk ?_ (fun h=>absurd h (by decide)) ?_|with_reducible refine GT.mk ?_ (fun _=>?_) ?_
 | exact trivial
 | omega
 |(simp only[SZ,a8z,a9d,List.length_append,List.length_cons,List.length_nil];omega)
 |(simp only[SZ,a8z,a9d]at *;omega)
 | exact rfl
 | with_reducible refine t_if ?_ ?_
 |(simp only[CD])):P:=x
end Go.Proofs.YtmippldlhnajkaaGreatDoor
