/- Texts of ParsePrints, joined. -/
import Derived.Test.YtmippldlhnajkaaGreatDoorParsePrintsJ23
set_option maxRecDepth 100000
set_option maxHeartbeats 20000000
set_option linter.unusedSimpArgs false
set_option linter.unusedVariables false
set_option linter.unusedSectionVars false
namespace Go.Proofs.YtmippldlhnajkaaGreatDoor
open Go Go.Vm Pr
section
variable {s:Str} {a:Int} {x y z b c:Nod} {l:List Nod} {t:Typ}
theorem c1I (hs:s.length<=20000)(H:∀x∈l,RE x):RE ⟨56,s,0,zT,[],l,a⟩:=fun n n' w hn hn' hw=>by
 simp only[SZ]at hn hn' hw;have hl:=G5 l;have ih1:=fun w=>a7R (n:=n-1-1-1-1) (n':=n'-1-1) (Φ:=j3.fs (n-1-1-1-1)) (Ψ:=j6.fs (n'-1-1)) (l:=l) (by omega) (fun x hx w hw=>H x hx _ _ w (by have:=I5 hx;omega) (by have:=I5 hx;omega) hw) (n-1-1-1-1) (n'-1-1) 0 w (by omega) (by omega) (Nat.zero_le _);simp only[List.drop_zero,Int.natCast_zero]at ih1;exact pn
theorem E_method (hs:s.length<=20000)(hx:RE x)(H:∀x∈l,RE x):RE ⟨57,s,0,zT,[],x::l,a⟩:=fun n n' w hn hn' hw=>by
 simp only[SZ]at hn hn' hw;have hl:=G5 l;have ih1:=fun w=>a7R (n:=n-1-1-1-1) (n':=n'-1-1-1) (Φ:=j3.fs (n-1-1-1-1)) (Ψ:=j6.fs (n'-1-1-1)) (l:=l) (by omega) (fun x hx w hw=>H x hx _ _ w (by have:=I5 hx;omega) (by have:=I5 hx;omega) hw) (n-1-1-1-1) (n'-1-1-1) 0 w (by omega) (by omega) (Nat.zero_le _);simp only[List.drop_zero,Int.natCast_zero]at ih1;exact pn
theorem E_apply (hx:RE x)(H:∀x∈l,RE x):RE ⟨60,[],0,zT,[],x::l,a⟩:=fun n n' w hn hn' hw=>by
 simp only[SZ]at hn hn' hw;have hl:=G5 l;have ih1:=fun w=>a7R (n:=n-1-1-1-1) (n':=n'-1-1-1) (Φ:=j3.fs (n-1-1-1-1)) (Ψ:=j6.fs (n'-1-1-1)) (l:=l) (by omega) (fun x hx w hw=>H x hx _ _ w (by have:=I5 hx;omega) (by have:=I5 hx;omega) hw) (n-1-1-1-1) (n'-1-1-1) 0 w (by omega) (by omega) (Nat.zero_le _);simp only[List.drop_zero,Int.natCast_zero]at ih1;exact pn
theorem E_list (H:∀x∈l,RE x):RE ⟨67,[],0,zT,[],l,a⟩:=fun n n' w hn hn' hw=>by
 simp only[SZ]at hn hn' hw;have hl:=G5 l;have ih1:=fun w=>c06 (n:=n-1-1) (n':=n'-1) (Φ:=j3.fs (n-1-1)) (Ψ:=j6.fs (n'-1)) (op:=67) (s:=[]) (k:=0) (t:=zT) (ts:=[]) (a:=a) (l:=l) (by omega) (fun x hx w hw=>H x hx _ _ w (by have:=I5 hx;omega) (by have:=I5 hx;omega) hw) (n-1-1) (n'-1) 0 w (by omega) (by omega) (Nat.zero_le _);simp only[List.drop_zero,Int.natCast_zero]at ih1;exact pn
theorem E_stat0 (hs:s.length<=20000)(hg:GT t):RE ⟨58,s,0,t,[],[],a⟩:=fun n n' w hn hn' hw=>by
 simp only[SZ]at hn hn' hw;exact pn
theorem E_stat1 (hs:s.length<=20000)(hg:GT t)(H:∀x∈l,RE x):RE ⟨58,s,1,t,[],l,a⟩:=fun n n' w hn hn' hw=>by
 simp only[SZ]at hn hn' hw;have hl:=G5 l;have ih1:=fun w=>a7R (n:=n-1-1-1-1) (n':=n'-1-1) (Φ:=j3.fs (n-1-1-1-1)) (Ψ:=j6.fs (n'-1-1)) (l:=l) (by omega) (fun x hx w hw=>H x hx _ _ w (by have:=I5 hx;omega) (by have:=I5 hx;omega) hw) (n-1-1-1-1) (n'-1-1) 0 w (by omega) (by omega) (Nat.zero_le _);simp only[List.drop_zero,Int.natCast_zero]at ih1;exact pn
theorem E_make (hg:GT t)(H:∀x∈l,RE x):RE ⟨59,[],0,t,[],l,a⟩:=fun n n' w hn hn' hw=>by
 simp only[SZ]at hn hn' hw;have hl:=G5 l;have ih1:=fun w=>a7R (n:=n-1-1-1-1) (n':=n'-1-1) (Φ:=j3.fs (n-1-1-1-1)) (Ψ:=j6.fs (n'-1-1)) (l:=l) (by omega) (fun x hx w hw=>H x hx _ _ w (by have:=I5 hx;omega) (by have:=I5 hx;omega) hw) (n-1-1-1-1) (n'-1-1) 0 w (by omega) (by omega) (Nat.zero_le _);simp only[List.drop_zero,Int.natCast_zero]at ih1;exact pn
theorem E_text (hs:s.length<=20000):RE ⟨52,s,0,zT,[],[],a⟩:=fun n n' w hn hn' hw=>by
 simp only[SZ]at hn hn' hw;obtain⟨h1,h2⟩:=escs hs;have e1:cat [34] (Rp.esc s)=some ([34]++Rp.esc s):=b7l (by simp only[List.length_singleton];omega);have e2:cat ([34]++Rp.esc s) [34]=some ([34]++Rp.esc s++[34]):=b7l (by simp only[List.length_singleton,List.length_append];omega);simp (disch:=omega) only[fe1,fr1,V7,a0n,h1,NF,e1,e2];exact pn
theorem E_truth {k:Int}:RE ⟨51,[],k,zT,[],[],a⟩:=fun n n' w hn hn' hw=>by
 simp only[SZ]at hn hn' hw;simp (disch:=omega) only[fe1,fr1,V7,a0n,a2f,a4H];cases eqB k 1<;>exact pn
theorem E_int {k:Int}(hk:0<=k)(hk2:k<=9223372036854775807):RE ⟨50,[],k,zT,[],[],a⟩:=fun n n' w hn hn' hw=>by
 simp only[SZ]at hn hn' hw;have h:=b3A (b65 (n:=k) (by omega));have e0:=itoas (n:=k) (by omega);have e:ltB k 0=false:=O8 (by omega);simp (disch:=omega) only[fe1,fr1,V7,a0n,a1H,e0,e];exact pn
theorem S_let0 {k:Int}(hs:s.length<=20000)(hg:t.kind=0∨GT t):RS ⟨21,s,k,t,[],[],a⟩:=fun n n' w hn hn' hw=>by
 simp only[SZ]at hn hn' hw;rcases Classical.em (t.kind=0)with h|h
 ·have e:=a1s h;rcases Classical.em (k=1)with rfl|hk
  ·simp (disch:=omega) only[fe4,fr4,J2,Q7,e];exact pn
  ·have e2:=a0i hk;simp (disch:=omega) only[fe4,fr4,J2,Q7,e,e2];exact pn
 ·have e:=a0i h;have hg:=hg.resolve_left h;rcases Classical.em (k=1)with rfl|hk
  ·simp (disch:=omega) only[fe4,fr4,J2,Q7,e];exact pn
  ·have e2:=a0i hk;simp (disch:=omega) only[fe4,fr4,J2,Q7,e,e2];exact pn
theorem S_let1 {k:Int}(hs:s.length<=20000)(hg:t.kind=0∨GT t)(hx:RE x):RS ⟨21,s,k,t,[],[x],a⟩:=fun n n' w hn hn' hw=>by
 simp only[SZ]at hn hn' hw;rcases Classical.em (t.kind=0)with h|h
 ·have e:=a1s h;rcases Classical.em (k=1)with rfl|hk
  ·simp (disch:=omega) only[fe4,fr4,J2,Q7,e];exact pn
  ·have e2:=a0i hk;simp (disch:=omega) only[fe4,fr4,J2,Q7,e,e2];exact pn
 ·have e:=a0i h;have hg:=hg.resolve_left h;rcases Classical.em (k=1)with rfl|hk
  ·simp (disch:=omega) only[fe4,fr4,J2,Q7,e];exact pn
  ·have e2:=a0i hk;simp (disch:=omega) only[fe4,fr4,J2,Q7,e,e2];exact pn
theorem S_assign (hx:RE x)(hy:RE y):RS ⟨22,[],0,zT,[],[x,y],a⟩:=fun n n' w hn hn' hw=>by
 simp only[SZ]at hn hn' hw;exact pn
theorem S_sole (hx:RE x):RS ⟨23,[],0,zT,[],[x],a⟩:=fun n n' w hn hn' hw=>by
 simp only[SZ]at hn hn' hw;exact pn
theorem S_if2 (hx:RE x)(hy:RB b):RS ⟨24,[],0,zT,[],[x,b],a⟩:=fun n n' w hn hn' hw=>by
 simp only[SZ]at hn hn' hw;exact pn
theorem S_if3 (hx:RE x)(hy:RB b)(hz:RB c)(hc:c.op=20):RS ⟨24,[],0,zT,[],[x,b,c],a⟩:=fun n n' w hn hn' hw=>by
 simp only[SZ]at hn hn' hw;have he:decide (c.op=24)=false:=decide_eq_false (by omega);exact pn
theorem S_if4 (hx:RE x)(hy:RB b)(hz:RS c)(hc:c.op=24):RS ⟨24,[],0,zT,[],[x,b,c],a⟩:=fun n n' w hn hn' hw=>by
 simp only[SZ]at hn hn' hw;have he:decide (c.op=24)=true:=decide_eq_true hc;exact pn
theorem S_whil (hx:RE x)(hy:RB b):RS ⟨25,[],0,zT,[],[x,b],a⟩:=fun n n' w hn hn' hw=>by
 simp only[SZ]at hn hn' hw;exact pn
theorem S_ret0:RS ⟨28,[],0,zT,[],[],a⟩:=fun n n' w hn hn' hw=>by
 simp only[SZ]at hn hn' hw;exact pn
theorem S_ret1 (hx:RE x):RS ⟨28,[],0,zT,[],[x],a⟩:=fun n n' w hn hn' hw=>by
 simp only[SZ]at hn hn' hw;exact pn
theorem S_throw (hx:RE x):RS ⟨29,[],0,zT,[],[x],a⟩:=fun n n' w hn hn' hw=>by
 simp only[SZ]at hn hn' hw;exact pn
theorem S_do (hs:s.length<=20000)(hx:RB b)(hy:RB c):RS ⟨30,s,0,zT,[],[b,c],a⟩:=fun n n' w hn hn' hw=>by
 simp only[SZ]at hn hn' hw;exact pn
theorem S_defer (hx:RB b):RS ⟨31,[],0,zT,[],[b],a⟩:=fun n n' w hn hn' hw=>by
 simp only[SZ]at hn hn' hw;exact pn
theorem B_block (H:∀x∈l,RS x):RB ⟨20,[],0,zT,[],l,a⟩:=fun n n' w hn hn' hw=>by
 simp only[SZ]at hn hn' hw;have hl:=G5 l;have ih1:=fun w=>b84 (n:=n-1) (n':=n'-1) (Φ:=j3.fs (n-1)) (Ψ:=j6.fs (n'-1)) (op:=20) (s:=[]) (k:=0) (t:=zT) (ts:=[]) (a:=a) (op':=20) (s':=[]) (k':=0) (t':=zT) (ts':=[]) (a':=a) (l:=l) (by omega) (fun x hx w hw=>H x hx _ _ w (by have:=I5 hx;omega) (by have:=I5 hx;omega) hw) (n-1) (n'-1) 0 w (by omega) (by omega) (Nat.zero_le _);simp only[List.drop_zero,Int.natCast_zero]at ih1;exact pn
theorem c4t {n n':Nat}{Φ:A7}{Ψ:G6}{op:Int}{s:Str}{k:Int}{t:Typ}{ts:List Typ}{a:Int}{l:List Nod}(hL:l.length<=1000000000)(H:∀x∈l,∀w,wt w+100000*x.sz<=2000000000000->S2 (E2 2 (100000*x.sz) w) (Φ.K7 x w) (Ψ.T9 w x)):∀(m m' i:Nat) (w:List Str),1<=i->l.length<m+i->l.length<m'+i->i<=l.length->wt w+100000*szN (l.drop i)+2<=2000000000000->S2 (E2 0 (100000*szN (l.drop i)) w) (a0s n Φ l m i w) (X8 n' Ψ ⟨op,s,k,t,ts,l,a⟩ m' w i)
 | 0,_,_,_,_,_,_,_,_=>by omega
 | _+1,0,_,_,_,_,_,_,_=>by omega
 | m+1,m'+1,i,w,hi,h1,h2,h3,h4=>by
  rw[a0s.eq_2,X8.eq_2];rcases Nat.lt_or_ge i l.length with h|h
  ·have hl:=G5 (l.drop i);rw[List.length_drop]at hl;have hd:=drop_eq h;rw[hd,K6]at h4 hl ⊢;have ih1:=fun w=>H l[i] (List.getElem_mem h) w;have ih2:=fun w=>c4t (n:=n) (n':=n') (Φ:=Φ) (Ψ:=Ψ) (op:=op) (s:=s) (k:=k) (t:=t) (ts:=ts) (a:=a) hL H m m' (i+1) w (by omega) (by omega) (by omega) (by omega);simp only[R4 (show(i:Int)<(l.length:Int)by omega),O3 h,L6 (show i<=1000000000000 by omega),R4 (show(0:Int)<(i:Int)by omega),a0i (show ¬(i:Int)=0 by omega)];exact pt
  ·simp only[O8 (show ¬(i:Int)<(l.length:Int)by omega)];exact pt
theorem b5D {op k:Int}(hs:s.length<=20000)(hk:-9223372036854775808<=k/\k<=9223372036854775807)(h:op=40∨op=41∨op=42∨op=43∨op=44):RP ⟨op,s,k,zT,[],[],a⟩:=fun n n' w hn hn' hw=>by
 simp only[SZ]at hn hn' hw;simp (disch:=omega) only[fp1,fm1,a0H,a1Q];rcases h with rfl|rfl|rfl|rfl|rfl
 ·exact pn
 ·exact pn
 ·have h:=b3A (b65 hk);have e0:=itoas hk;simp only[a1H,e0];have e1:=sub1 hk;rcases Classical.em (k<0)with hk|hk
  ·have e:=R4 hk;simp only[e,NF,e1];have:(List.drop 1 (Lib.itoa k)).length<=30:=by rw[List.length_drop];omega
   exact pn
  ·have e:=O8 hk;simp only[e,NF];exact pn
 ·simp only[a2f,a4H];cases eqB k 1<;>exact pn
 ·obtain⟨h1,h2⟩:=escs hs;have e1:cat [34] (Rp.esc s)=some ([34]++Rp.esc s):=b7l (by simp only[List.length_singleton];omega);have e2:cat ([34]++Rp.esc s) [34]=some ([34]++Rp.esc s++[34]):=b7l (by simp only[List.length_singleton,List.length_append];omega);simp (disch:=omega) only[h1,NF,e1,e2];exact pn
theorem P_case (hs:s.length<=20000)(H:∀x∈l,RP x):RP ⟨45,s,0,zT,[],l,a⟩:=fun n n' w hn hn' hw=>by
 simp only[SZ]at hn hn' hw;simp (disch:=omega) only[fp1,fm1,fp2,a0H,a1Q,a2u];obtain⟨m,hm⟩:∃m,n-1-1=m+2:=⟨n-1-1-2,by omega⟩
 obtain⟨m',hm'⟩:∃m,n'-1=m+2:=⟨n'-1-2,by omega⟩
 rcases l with _ |⟨x,l⟩
 ·rw[hm'];simp only[X8.eq_2,LIT];exact pn
 ·have hl:=G5 l;simp only[SZ]at hn hn' hw ⊢;have hq:=c4t (n:=n-1-1) (n':=n'-1) (Φ:=A7.fs (n-1-1)) (Ψ:=G6.fs (n'-1)) (op:=45) (s:=s) (k:=0) (t:=zT) (ts:=[]) (a:=a) (l:=x::l) (by simp only[List.length_cons];omega) (fun y hy w hw=>by
   have h1:=I5 hy;simp only[K6]at h1;exact H y hy _ _ w (by omega) (by omega) hw)
  have hx:=fun w=>H x (List.mem_cons_self ..) (n-1-1) (n'-1) w (by omega) (by omega);rw[hm,hm']at hq hx ⊢;have ih1:=hx;have ih2:=fun w=>hq (m+1) (m'+1) 1 w (Nat.le_refl _) (by simp only[List.length_cons];omega) (by simp only[List.length_cons];omega) (by simp only[List.length_cons];omega);simp only[List.drop_succ_cons,List.drop_zero,Int.natCast_one]at ih2;have c3:eqB 0 0=true:=a1s rfl;have u1:∀w,a0s (m+2) (A7.fs (m+2)) (x::l) (m+2) 0 w =((A7.fs (m+2)).K7 x w).bind fun w5=>a0s (m+2) (A7.fs (m+2)) (x::l) (m+1) 1 w5:=fun w=>by
   rw[a0s.eq_2];simp only[LIT,NF]
  have u2:∀w,X8 (m'+2) (G6.fs (m'+2)) ⟨45,s,0,zT,[],x::l,a⟩ (m'+2) w 0 =(app 16 w ([[40]]:List Str)).bind fun l16=>((G6.fs (m'+2)).T9 l16 x).bind fun w5=>X8 (m'+2) (G6.fs (m'+2)) ⟨45,s,0,zT,[],x::l,a⟩ (m'+1) w5 1:=fun w=>by
   rw[X8.eq_2];simp only[LIT,NF,c3]
  simp only[u1,u2,LIT];exact pn
theorem c4q {n n':Nat}{Φ:j3}{Ψ:j6}{x:Nod}{op:Int}{s:Str}{k:Int}{t:Typ}{ts:List Typ}{a:Int}{l:List Nod}(hL:l.length<=1000000000)(hn:∀x∈l,40*x.sz+40<=n/\40*x.sz+40<=n')(H:∀x∈l,∃p b a,x =⟨27,[],0,zT,[],[p,b],a⟩/\RP p /\ ∀w,wt w+100000*b.sz<=2000000000000->S2 (E2 2 (100000*b.sz) w) (Φ.I4 b w) (Ψ.I6 w b)):∀(m m' i:Nat) (w:List Str),l.length<m+i->l.length<m'+i->i<=l.length->wt w+100000*szN (l.drop i)+2<=2000000000000->S2 (E2 0 (100000*szN (l.drop i)) w) (a1w n Φ l m i w) (Y1 n' Ψ ⟨op,s,k,t,ts,x::l,a⟩ m' w ((i+1:Nat):Int))
 | 0,_,_,_,_,_,_,_=>by omega
 | _+1,0,_,_,_,_,_,_=>by omega
 | m+1,m'+1,i,w,h1,h2,h3,h4=>by
  rw[a1w.eq_2,Y1.eq_2];have hc:(((x::l).length:Nat):Int) =(l.length:Int)+1:=by simp only[List.length_cons];omega
  rcases Nat.lt_or_ge i l.length with h|h
  ·have hl:=G5 (l.drop i);rw[List.length_drop]at hl;have hd:=drop_eq h;have hm:=List.getElem_mem h;have hxi:idx' (x::l) ((i+1:Nat):Int)=some l[i]:=by rw[O3 (by simp only[List.length_cons];omega)];simp
   have hn1:=hn _ hm;obtain⟨p,b,a',e,hp,hb⟩:=H _ hm;have ih4:=fun w=>c4q (n:=n) (n':=n') (Φ:=Φ) (Ψ:=Ψ) (x:=x) (op:=op) (s:=s) (k:=k) (t:=t) (ts:=ts) (a:=a) hL hn H m m' (i+1) w (by omega) (by omega) (by omega);simp only[hc,hxi,R4 (show(i:Int)<(l.length:Int)by omega),R4 (show((i+1:Nat):Int)<(l.length:Int)+1 by omega),O3 h,L6 (show i<=1000000000000 by omega),L6 (show i+1<=1000000000000 by omega),a0i (show ¬((i+1:Nat):Int)=0 by omega)];rw[hd,K6]at h4 hl ⊢;rw[e]at h4 hl hn1 ⊢;simp only[SZ]at h4 hl hn1 ⊢;have ih1:=fun w hw=>hp n n' w (by omega) (by omega) hw;have ih2:=hb;have c2:eqB ((([p,b]:List Nod).length:Nat):Int) 2=true:=a1s rfl;simp only[c2,LIT,NF];simp only[K7,T9];refine a5j ?_ ?_ ?_
   ·omega
   ·simp
   refine a5m ?_ ?_ ?_
   ·omega
   ·simp
   refine a6r (ih1 _ ?_) fun w1 h5=>?_
   ·simp only[WT];omega
   simp only[WT]at h5;refine a6r (ih2 _ ?_) fun w2 h6=>?_
   ·omega
   exact b8A (ih4 _ (by omega)) (by omega)
  ·simp only[hc,O8 (show ¬(i:Int)<(l.length:Int)by omega),O8 (show ¬((i+1:Nat):Int)<(l.length:Int)+1 by omega)];exact pt
theorem S_mat (hx:RE x)(H:∀x∈l,RA x):RS ⟨26,[],0,zT,[],x::l,a⟩:=fun n n' w hn hn' hw=>by
 simp only[SZ]at hn hn' hw;have hl:=G5 l;have ih1:=fun w=>c4q (n:=n-1) (n':=n'-1-1) (Φ:=j3.fs (n-1)) (Ψ:=j6.fs (n'-1-1)) (x:=x) (op:=26) (s:=[]) (k:=0) (t:=zT) (ts:=[]) (a:=a) (l:=l) (by omega) (fun y hy=>by have:=I5 hy;omega) (fun y hy=>by
  obtain⟨p,b,a',e,h1,h2⟩:=H y hy;have h3:=I5 hy;rw[e]at h3;simp only[SZ]at h3;exact⟨p,b,a',e,h1,fun w hw=>h2 _ _ w (by omega) (by omega) hw⟩) (n-1) (n'-1-1-1) 0 w (by omega) (by omega) (Nat.zero_le _)
 simp only[List.drop_zero,Int.natCast_zero,Nat.zero_add,Int.natCast_one]at ih1;obtain⟨q,hq⟩:∃m,n'-1-1=m+2:=⟨n'-1-1-2,by omega⟩
 have u:∀w,Y1 (n'-1-1) (j6.fs (n'-1-1)) ⟨26,[],0,zT,[],x::l,a⟩ (n'-1-1) w 0 =((j6.fs (n'-1-1)).F9 w x).bind fun r12=>(app 16 r12 ([[123]]:List Str)).bind fun r=>Y1 (n'-1-1) (j6.fs (n'-1-1)) ⟨26,[],0,zT,[],x::l,a⟩ (n'-1-1-1) r 1:=fun w=>by
  have c3:eqB 0 0=true:=a1s rfl;rw[show n'-1-1-1=q+1 by omega,hq];rw[Y1.eq_2];simp only[LIT,NF,c3]
 simp (disch:=omega) only[fe4,fr4,fr5,J2,Q7,a0I,u,LIT];exact pn
end
end Go.Proofs.YtmippldlhnajkaaGreatDoor
namespace Go.Proofs.YtmippldlhnajkaaGreatDoor
open Go Go.Vm Pr
theorem b85 {n n':Nat}{l:List Nod}(hL:l.length<=1000000000)(H:∀x∈l,RM x/\40*x.sz+40<=n/\40*x.sz+40<=n'):∀(m m' i:Nat) (w:List Str),l.length<m+i->l.length<m'+i->i<=l.length->wt w+100000*szN (l.drop i)+2<=2000000000000->S2 (E2 0 (100000*szN (l.drop i)) w) (a3z n l m i w) (a2L n' l m' w i)
 | 0,_,_,_,_,_,_,_=>by omega
 | _+1,0,_,_,_,_,_,_=>by omega
 | m+1,m'+1,i,w,h1,h2,h3,h4=>by
  rw[a3z.eq_2,a2L.eq_2];rcases Nat.lt_or_ge i l.length with h|h
  ·have hl:=G5 (l.drop i);rw[List.length_drop]at hl;have hd:=drop_eq h;obtain⟨⟨s,k,t,a,e,hs,hg⟩,hn,hn'⟩:=H _ (List.getElem_mem h);have ih2:=fun w=>b85 (n:=n) (n':=n') hL H m m' (i+1) w (by omega) (by omega) (by omega);simp only[R4 (show(i:Int)<(l.length:Int)by omega),O3 h,L6 (show i<=1000000000000 by omega)];rw[hd,K6]at h4 hl ⊢;rw[e]at h4 hl hn hn' ⊢;simp only[SZ]at h4 hl hn hn' ⊢;simp only[NF,a3e];have ih1:=fun w=>a8G (n:=n) (n':=n') hg w (by omega) (by omega);rcases Nat.eq_zero_or_pos i with rfl|hi
   ·simp only[O8 (show ¬(0:Int)<((0:Nat):Int)by omega)];rcases Classical.em (k=1)with rfl|k1
    ·exact pt
    rcases Classical.em (k=2)with rfl|k2
    ·exact pt
    simp only[a0i k1,a0i k2];exact pt
   ·simp only[R4 (show(0:Int)<(i:Int)by omega)];rcases Classical.em (k=1)with rfl|k1
    ·exact pt
    rcases Classical.em (k=2)with rfl|k2
    ·exact pt
    simp only[a0i k1,a0i k2];exact pt
  ·simp only[O8 (show ¬(i:Int)<(l.length:Int)by omega)];exact pt
theorem c1O {l m:List Nod}(h1:l.length<=10000000000)(h2:m.length<=10):app 144 l m=some (l++m):=by
 refine c1P ?_;omega
theorem of_p {n:Nat}{x:Nod}{o:Int}(hn:3<=n)(hL:x.l.length<=1000000000):∀(m i:Nat) (r:List Nod),x.l.length<m+i->i<=x.l.length->r.length<=i->a5A n x [o] m r i=some (r ++(x.l.drop i).filter fun y=>eqB y.op o)
 | 0,_,_,_,_,_=>by omega
 | m+1,i,r,h1,h2,h3=>by
  rw[a5A.eq_2];rcases Nat.lt_or_ge i x.l.length with h|h
  ·obtain⟨q,rfl⟩:∃q,n=q+2:=⟨n-2,by omega⟩
   have e1:idx' [o] 0=some o:=O3 (l:=[o]) (i:=0) (by simp);have e2:w64 (0+1)=1:=by decide
   have c1:ltB 0 ((1:Nat):Int)=true:=R4 (by omega);have c2:ltB 1 ((1:Nat):Int)=false:=O8 (by omega);rw[R4 (by omega),O3 h,drop_eq h];simp only[NF,a8p.eq_2,List.length_singleton,c1,c2,e1,e2,List.filter_cons];cases hb:eqB x.l[i].op o
   ·simp only[NF,L6 (show i<=1000000000000 by omega)];exact of_p hn hL m (i+1) r (by omega) (by omega) (by omega)
   ·simp only[NF,c1O (show r.length<=10000000000 by omega) (show [x.l[i]].length<=10 by simp),L6 (show i<=1000000000000 by omega),if_true];rw[of_p hn hL m (i+1) (r++[x.l[i]]) (by omega) (by omega) (by simp;omega)];simp
  ·rw[O8 (by omega),List.drop_of_length_le h];simp
theorem of_r {n:Nat}{x:Nod}{o:Int}(hn:3<=n)(hL:x.l.length<=1000000000):∀(m i:Nat) (r:List Nod),x.l.length<m+i->i<=x.l.length->r.length<=i->b0t n x [o] m r i=some (r ++(x.l.drop i).filter fun y=>eqB y.op o)
 | 0,_,_,_,_,_=>by omega
 | m+1,i,r,h1,h2,h3=>by
  rw[b0t.eq_2];rcases Nat.lt_or_ge i x.l.length with h|h
  ·obtain⟨q,rfl⟩:∃q,n=q+2:=⟨n-2,by omega⟩
   have e1:idx' [o] 0=some o:=O3 (l:=[o]) (i:=0) (by simp);have e2:w64 (0+1)=1:=by decide
   have c1:ltB 0 ((1:Nat):Int)=true:=R4 (by omega);have c2:ltB 1 ((1:Nat):Int)=false:=O8 (by omega);rw[R4 (by omega),drop_eq h];simp only[NF,b3X.eq_2,List.length_singleton,c1,c2,e1,e2,O3 h,List.filter_cons];cases hb:eqB x.l[i].op o
   ·simp only[NF,L6 (show i<=1000000000000 by omega)];exact of_r hn hL m (i+1) r (by omega) (by omega) (by omega)
   ·simp only[NF,c1O (show r.length<=10000000000 by omega) (show [x.l[i]].length<=10 by simp),L6 (show i<=1000000000000 by omega),if_true];rw[of_r hn hL m (i+1) (r++[x.l[i]]) (by omega) (by omega) (by simp;omega)];simp
  ·rw[O8 (by omega),List.drop_of_length_le h];simp
theorem ofs {n:Nat}{x:Nod}{o:Int}(hn:x.l.length+3<=n)(hL:x.l.length<=1000000000):a1Y n x [o]=some (x.l.filter fun y=>eqB y.op o)/\a4X n x [o]=some (x.l.filter fun y=>eqB y.op o):=by
 unfold a1Y a4X;have h1:=of_p (n:=n) (x:=x) (o:=o) (by omega) hL n 0 [] (by omega) (Nat.zero_le _) (Nat.le_refl _);have h2:=of_r (n:=n) (x:=x) (o:=o) (by omega) hL n 0 [] (by omega) (Nat.zero_le _) (Nat.le_refl _);simp only[List.drop_zero,List.nil_append,Int.natCast_zero]at h1 h2;rw[h1,h2];exact⟨rfl,rfl⟩
theorem filt {p:List Nod}{b:Nod}(hp:∀x∈p,RM x)(hb:b.op=20):(p++[b]).filter (fun y=>eqB y.op 10)=p/\(p++[b]).filter (fun y=>eqB y.op 20)=[b]:=by
 have h1:p.filter (fun y=>eqB y.op 10)=p:=List.filter_eq_self.2 fun x hx=>by
  obtain⟨s,k,t,a,rfl,_⟩:=hp x hx;exact a1s rfl
 have h2:p.filter (fun y=>eqB y.op 20)=[]:=List.filter_eq_nil_iff.2 fun x hx=>by
  obtain⟨s,k,t,a,rfl,_⟩:=hp x hx;rw[a0i (by simp)];simp
 have e1:eqB b.op 10=false:=a0i (by omega);have e2:eqB b.op 20=true:=a1s hb;rw[List.filter_append,List.filter_append,h1,h2];simp only[List.filter_cons,List.filter_nil,e1,e2];simp
section
variable {s:Str} {a a':Int} {x y z b c:Nod} {l:List Nod} {t:Typ}
theorem c4r {n n':Nat}{Φ:j3}{Ψ:j6}{X Y:Nod}{j:Nat}{q:Int}{l:List Nod}(hX:X.l=l)(hY:idx' Y.l (j:Int)=some X)(hL:l.length<=1000000000)(H:∀x∈l,∀w,wt w+100000*x.sz<=2000000000000->S2 (E2 2 (100000*x.sz) w) (Φ.J6 x w) (Ψ.I6 w x)):∀(m m' i:Nat) (w:List Str),l.length<m+i->l.length<m'+i->i<=l.length->wt w+100000*szN (l.drop i)+2<=2000000000000->S2 (fun u v=>u.1=q/\v.2 =(j:Int)/\E2 0 (100000*szN (l.drop i)) w u.2 v.1) (a2G n Φ X m q i w) (a2h n' Ψ Y m' w (j:Int) i)
 | 0,_,_,_,_,_,_,_=>by omega
 | _+1,0,_,_,_,_,_,_=>by omega
 | m+1,m'+1,i,w,h1,h2,h3,h4=>by
  rw[a2G.eq_2,a2h.eq_2];simp only[hX,hY,NF];rcases Nat.lt_or_ge i l.length with h|h
  ·have hl:=G5 (l.drop i);rw[List.length_drop]at hl;have hd:=drop_eq h;rw[hd,K6]at h4 hl ⊢;have ih1:=fun w=>H l[i] (List.getElem_mem h) w;have ih4:=fun w=>c4r (n:=n) (n':=n') (Φ:=Φ) (Ψ:=Ψ) (X:=X) (Y:=Y) (j:=j) (q:=q) hX hY hL H m m' (i+1) w (by omega) (by omega) (by omega);simp only[R4 (show(i:Int)<(l.length:Int)by omega),O3 h,L6 (show i<=1000000000000 by omega),NF];refine a6r (ih1 _ (by omega)) fun w1 h5=>?_;refine S2imp (ih4 _ (by omega)) fun u v h6=>⟨h6.1,h6.2.1,h6.2.2.1,?_⟩
   have:=h6.2.2.2;omega
  ·simp only[O8 (show ¬(i:Int)<(l.length:Int)by omega),NF];exact S2mk ⟨rfl,rfl,rfl,by show wt w+0<=_;omega⟩
theorem skip {n:Nat}{Ψ:j6}{Y:Nod}{p:List Nod}{b:Nod}(hY:Y.l=p++[b])(hp:∀x∈p,RM x)(hL:p.length<=1000000000):∀(d i m:Nat) (w:List Str),p.length=i+d->P7 n Ψ Y (m+d) w i=P7 n Ψ Y m w p.length
 | 0,i,m,w,h=>by rw[Nat.add_zero,h,Nat.add_zero]
 | d+1,i,m,w,h=>by
  have hi:i<p.length:=by omega
  have e:idx' (p++[b]) (i:Int)=some p[i]:=by rw[O3 (by simp;omega)];simp[hi]
  obtain⟨s,k,t,a,e2,_⟩:=hp _ (List.getElem_mem hi);rw[show m+(d+1) =(m+d)+1 by omega,P7.eq_2,hY,R4 (by simp;omega)];simp only[e,e2,NF,a0j,Int.reduceEq,decide_false,L6 (show i<=1000000000000 by omega)];rw[skip hY hp hL d (i+1) m w (by omega)]
theorem E_clos {p bl:List Nod}(hg:GT t)(hp:∀x∈p,RM x)(hb:∀x∈bl,RS x):RE ⟨63,[],0,t,[],p++[⟨20,[],0,zT,[],bl,a'⟩],a⟩:=fun n n' w hn hn' hw=>by
 simp only[SZ]at hn hn' hw ⊢;have hl:=G5 p;have hl2:=G5 bl;have hf:=filt (b:=⟨20,[],0,zT,[],bl,a'⟩) hp rfl;have o1:a1Y (n-1-1) ⟨63,[],0,t,[],p++[⟨20,[],0,zT,[],bl,a'⟩],a⟩ [10]=some p:=by rw[(ofs (o:=10) (by simp only[List.length_append,List.length_singleton];omega) (by simp only[List.length_append,List.length_singleton];omega)).1];exact congrArg some hf.1
 have o2:a1Y (n-1-1) ⟨63,[],0,t,[],p++[⟨20,[],0,zT,[],bl,a'⟩],a⟩ [20]=some [⟨20,[],0,zT,[],bl,a'⟩]:=by rw[(ofs (o:=20) (by simp only[List.length_append,List.length_singleton];omega) (by simp only[List.length_append,List.length_singleton];omega)).1];exact congrArg some hf.2
 have o3:a4X (n'-1-1) ⟨63,[],0,t,[],p++[⟨20,[],0,zT,[],bl,a'⟩],a⟩ [10]=some p:=by rw[(ofs (o:=10) (by simp only[List.length_append,List.length_singleton];omega) (by simp only[List.length_append,List.length_singleton];omega)).2];exact congrArg some hf.1
 have ih1:=fun w=>b85 (n:=n-1-1) (n':=n'-1-1) (l:=p) (by omega) (fun x hx=>⟨hp x hx,by have:=I5 hx;omega,by have:=I5 hx;omega⟩) (n-1-1) (n'-1-1) 0 w (by omega) (by omega) (Nat.zero_le _);simp only[List.drop_zero,Int.natCast_zero]at ih1;have hr:∀w,wt w+100000*t.sz+10<=2000000000000->S2 (E2 0 (100000*t.sz+3) w) (a0q (n-1-1) t w) (a2q (n'-1-1) w t):=fun w hw=>by
  unfold a0q a2q;rcases Classical.em (t.kind=4)with h|h
  ·rw[a1s h];exact pt
  ·rw[a0i h];have ih1:=fun w=>a8G (n:=n-1-1) (n':=n'-1-1) hg w (by omega) (by omega);exact pt
 have ih2:=hr;have hc:=fun w=>c4r (n:=n-1-1) (n':=n'-1-1) (Φ:=j3.fs (n-1-1)) (Ψ:=j6.fs (n'-1-1)) (X:=⟨20,[],0,zT,[],bl,a'⟩) (Y:=⟨63,[],0,t,[],p++[⟨20,[],0,zT,[],bl,a'⟩],a⟩) (j:=p.length) (q:=0) (l:=bl) rfl (by show idx' (p++_) _=_;rw[O3 (by simp)];simp) (by omega) (fun x hx w hw=>hb x hx _ _ w (by have:=I5 hx;omega) (by have:=I5 hx;omega) hw) (n-1-1) (n'-1-1) 0 w (by omega) (by omega) (Nat.zero_le _);simp only[List.drop_zero,Int.natCast_zero]at hc;have ih3:∀w,wt w+100000*szN bl+2<=2000000000000->S2 (E2 0 (100000*szN bl) w) (R7 (n-1-1) (j3.fs (n-1-1)) [⟨20,[],0,zT,[],bl,a'⟩] (n-1-1) 0 w) (P7 (n'-1-1) (j6.fs (n'-1-1)) ⟨63,[],0,t,[],p++[⟨20,[],0,zT,[],bl,a'⟩],a⟩ (n'-1-1) w 0):=fun w hw=>by
  obtain⟨v1,v2,g1,g2,g3,g4,g5,g6⟩:=hc w hw;obtain⟨u1,u2⟩:=v1;obtain⟨u3,u4⟩:=v2;have g3:u1=0:=g3;have g4:u4 =(p.length:Int):=g4;have g5:u2=u3:=g5;subst g3 g4 g5;have hk:=skip (n:=n'-1-1) (Ψ:=j6.fs (n'-1-1)) (Y:=⟨63,[],0,t,[],p++[⟨20,[],0,zT,[],bl,a'⟩],a⟩) rfl hp (by omega) p.length 0 (n'-1-1-p.length) w (by omega);rw[show n'-1-1-p.length+p.length=n'-1-1 by omega]at hk;simp only[Int.natCast_zero]at hk;rw[hk];generalize hM:n-1-1=M at *;generalize hM':n'-1-1=M' at *;obtain⟨q,hq⟩:∃q,M'-p.length=q+2:=⟨M'-p.length-2,by omega⟩
  obtain⟨q',hq'⟩:∃q,M=q+2:=⟨M-2,by omega⟩
  have e1:idx' (p++[(⟨20,[],0,zT,[],bl,a'⟩:Nod)]) (p.length:Int)=some ⟨20,[],0,zT,[],bl,a'⟩:=by rw[O3 (by simp)];simp
  have e2:ltB (p.length:Int) (((p++[(⟨20,[],0,zT,[],bl,a'⟩:Nod)]).length:Nat):Int)=true:=R4 (by simp;omega);have e3:ltB ((p.length+1:Nat):Int) (((p++[(⟨20,[],0,zT,[],bl,a'⟩:Nod)]).length:Nat):Int)=false:=O8 (by simp);have e4:R7 M (j3.fs M) [⟨20,[],0,zT,[],bl,a'⟩] M 0 w=some u2:=by
   have e5:∀v,R7 M (j3.fs M) [⟨20,[],0,zT,[],bl,a'⟩] (q'+1) 1 v=some v:=fun v=>by
    rw[R7.eq_2];simp only[LIT,NF]
   rw[show R7 M (j3.fs M) [⟨20,[],0,zT,[],bl,a'⟩] M 0 w=R7 M (j3.fs M) [⟨20,[],0,zT,[],bl,a'⟩] (q'+1+1) 0 w by rw[<-hq'],R7.eq_2];simp only[LIT,NF,g1,e5]
  have e6:P7 M' (j6.fs M') ⟨63,[],0,t,[],p++[⟨20,[],0,zT,[],bl,a'⟩],a⟩ (M'-p.length) w (p.length:Int)=some u2:=by
   have e5:∀v,P7 M' (j6.fs M') ⟨63,[],0,t,[],p++[⟨20,[],0,zT,[],bl,a'⟩],a⟩ (q+1) v ((p.length+1:Nat):Int)=some v:=fun v=>by
    rw[P7.eq_2];simp only[e3,NF]
   rw[hq,P7.eq_2];simp only[e1,e2,NF,a0j,Int.reduceEq,decide_true,g2,e5,L6 (show p.length<=1000000000000 by omega)]
  rw[e4,e6];exact e2_ok rfl g6
 have c1:ltB (0:Int) ((0:Nat):Int)=false:=O8 (by omega);simp (disch:=omega) only[fe1,fe3,fr1,fr3,V7,a1v,a0n,a1j,a3V,a1I,a3q,o1,o2,o3,NF];have hz:eqB (((p++[(⟨20,[],0,zT,[],bl,a'⟩:Nod)]).length:Nat):Int) 0=false:=a0i (by simp;omega);simp only[hz,NF,a0j,Int.reduceEq,decide_true,decide_false];have he:True=True:=rfl;exact pt
end
end Go.Proofs.YtmippldlhnajkaaGreatDoor
namespace Go.Proofs.YtmippldlhnajkaaGreatDoor
open Go Go.Vm Pr
theorem c4s {n n':Nat}{Φ:j3}{Ψ:j6}{op:Int}{s:Str}{k:Int}{t:Typ}{ts:List Typ}{a:Int}{l:List Nod}(hL:l.length<=1000000000)(h3:3<=l.length)(hS:∀x∈l,x.s.length<=20000)(H:∀x∈l,∀w,wt w+100000*x.sz<=2000000000000->S2 (E2 2 (100000*x.sz) w) (Φ.E5 x w) (Ψ.F9 w x)):∀(m m' i:Nat) (w:List Str),l.length<m+i->l.length<m'+i->i<=l.length->wt w+100000*szN (l.drop i)+2<=2000000000000->S2 (E2 0 (100000*szN (l.drop i)) w) (a3d n Φ ⟨op,s,k,t,ts,l,a⟩ m i w) (a2j n' Ψ ⟨op,s,k,t,ts,l,a⟩ m' w i)
 | 0,_,_,_,_,_,_,_=>by omega
 | _+1,0,_,_,_,_,_,_=>by omega
 | m+1,m'+1,i,w,h1,h2,h4,h5=>by
  rw[a3d.eq_2,a2j.eq_2];rcases Nat.lt_or_ge i l.length with h|h
  ·have hl:=G5 (l.drop i);rw[List.length_drop]at hl;have hd:=drop_eq h;rw[hd,K6]at h5 hl ⊢;have hm:=List.getElem_mem h;have hz:=Nod.S9 l[i];have ih1:=fun w=>H l[i] hm w;have ih2:=fun w=>c4s (n:=n) (n':=n') (Φ:=Φ) (Ψ:=Ψ) (op:=op) (s:=s) (k:=k) (t:=t) (ts:=ts) (a:=a) hL h3 hS H m m' (i+1) w (by omega) (by omega) (by omega);have g2:(!eqB 2 0)=true:=by rw[a0i (by omega)];rfl
   simp only[R4 (show(i:Int)<(l.length:Int)by omega),O3 h,L6 (show i<=1000000000000 by omega),g2,gdO,NF];cases eqB (Int.tmod (i:Int) 2) 1
   ·obtain⟨⟨e1,e2⟩,e3⟩:=escs (hS _ hm);have c1:∀a:UInt8,cat [a] (Rp.esc l[i].s)=some ([a]++Rp.esc l[i].s):=fun a=>b7l (by simp only[List.length_singleton];omega);have c2:∀a:UInt8,cat ([a]++Rp.esc l[i].s) [34]=some ([a]++Rp.esc l[i].s++[34]):=fun a=>b7l (by simp only[List.length_singleton,List.length_append];omega);have c3:∀a:UInt8,cat ([a]++Rp.esc l[i].s) [92,40]=some ([a]++Rp.esc l[i].s++[92,40]):=fun a=>b7l (by simp only[List.length_singleton,List.length_append,List.length_cons,List.length_nil];omega);rcases Nat.eq_zero_or_pos i with rfl|hi
    ·have a1:eqB ((0:Nat):Int) 0=true:=a1s rfl;have a2:ltB 0 ((0:Nat):Int)=false:=O8 (by omega);simp only[a1,a2,R4 (show((0+1:Nat):Int)<(l.length:Int)by omega),NF,e1,e2,c1,c3];exact pt
    ·have a1:=a0i (show ¬(i:Int)=0 by omega);have a2:=R4 (show(0:Int)<(i:Int)by omega);have a3:w64 ((l.length:Int)-1) =(l.length:Int)-1:=a4j (by omega) (by omega);rcases Classical.em (i+1=l.length)with hj|hj
     ·simp only[a1,a2,a3,a1s (show(i:Int) =(l.length:Int)-1 by omega),O8 (show ¬((i+1:Nat):Int)<(l.length:Int)by omega),NF,e1,e2,c1,c2];exact pt
     ·simp only[a1,a2,a3,a0i (show ¬(i:Int) =(l.length:Int)-1 by omega),R4 (show((i+1:Nat):Int)<(l.length:Int)by omega),NF,e1,e2,c1,c3];exact pt
   ·simp only[NF];exact pt
  ·simp only[O8 (show ¬(i:Int)<(l.length:Int)by omega)];exact pt
theorem E_interp {l:List Nod}{a:Int}(hS:∀x∈l,x.s.length<=20000)(H:∀x∈l,RE x)(h3:3<=l.length):RE ⟨53,[],0,zT,[],l,a⟩:=fun n n' w hn hn' hw=>by
 simp only[SZ]at hn hn' hw;have hl:=G5 l;have ih1:=fun w=>c4s (n:=n-1-1) (n':=n'-1) (Φ:=j3.fs (n-1-1)) (Ψ:=j6.fs (n'-1)) (op:=53) (s:=[]) (k:=0) (t:=zT) (ts:=[]) (a:=a) (l:=l) (by omega) h3 hS (fun x hx w hw=>H x hx _ _ w (by have:=I5 hx;omega) (by have:=I5 hx;omega) hw) (n-1-1) (n'-1) 0 w (by omega) (by omega) (Nat.zero_le _);simp only[List.drop_zero,Int.natCast_zero]at ih1;simp (disch:=omega) only[fe1,fe2,fr1,V7,a1Z,a0n];exact pn
theorem G.rr {m:Nat}{x:Nod}(h:G m x):RR m x:=by
 induction h with
 | int h h2=>exact E_int h h2
 | truth=>exact E_truth
 | text h=>exact E_text h
 | interp h1 h2 _ ih=>exact E_interp (fun x hx=>(h1 x hx).slen) ih h2
 | name h=>exact E_name h
 | use h=>exact E_use h
 | list _ ih=>exact E_list ih
 | clos h1 _ _ ih1 ih2=>exact E_clos h1 ih1 ih2
 | bin h _ _ ih1 ih2=>exact E_bin h ih1 ih2
 | un h _ ih =>
  rcases h with rfl|rfl
  ·exact E_not ih
  ·exact E_neg ih
 | field h _ ih=>exact E_field h ih
 | call h _ ih=>exact c1I h ih
 | method h _ _ ih1 ih2=>exact E_method h ih1 ih2
 | apply _ _ ih1 ih2=>exact E_apply ih1 ih2
 | stat0 h1 h2=>exact E_stat0 h1 h2
 | stat1 h1 h2 _ ih=>exact E_stat1 h1 h2 ih
 | make h _ ih=>exact E_make h ih
 | arg _ ih=>exact ih
 | lend _ ih=>exact E_lend ih
 | let0 h1 h2=>exact S_let0 h1 h2
 | let1 h1 h2 _ ih=>exact S_let1 h1 h2 ih
 | assign _ _ ih1 ih2=>exact S_assign ih1 ih2
 | sole _ ih=>exact S_sole ih
 | if2 _ _ ih1 ih2=>exact S_if2 ih1 ih2.1
 | if3 _ _ _ ih1 ih2 ih3=>exact S_if3 ih1 ih2.1 ih3.1 ih3.2
 | if4 _ _ _ h ih1 ih2 ih3=>exact S_if4 ih1 ih2.1 ih3 h
 | whil _ _ ih1 ih2=>exact S_whil ih1 ih2.1
 | mat _ _ ih1 ih2=>exact S_mat ih1 ih2
 | ret0=>exact S_ret0
 | ret1 _ ih=>exact S_ret1 ih
 | throws _ ih=>exact S_throw ih
 | doc h _ _ ih1 ih2=>exact S_do h ih1.1 ih2.1
 | defer _ ih=>exact S_defer ih.1
 | block _ ih=>exact⟨B_block ih,rfl⟩
 | wild=>exact b5D (Nat.zero_le _) (by omega) (.inl rfl)
 | bnd h=>exact b5D h (by omega) (.inr (.inl rfl))
 | pint h=>exact b5D (Nat.zero_le _) h (.inr (.inr (.inl rfl)))
 | ptruth h=>exact b5D (Nat.zero_le _) h (.inr (.inr (.inr (.inl rfl))))
 | ptext h=>exact b5D h (by omega) (.inr (.inr (.inr (.inr rfl))))
 | pcase h _ ih=>exact P_case h ih
 | param h1 h2=>exact⟨_,_,_,_,rfl,h1,h2⟩
 | arm _ _ ih1 ih2=>exact⟨_,_,_,rfl,ih1,ih2.1⟩
theorem jt_len:∀r:List Str,(Lib.joinTail [32] r).length<=wt r
 | []=>Nat.le_refl _
 | x::r=>by
  have:=jt_len r;simp only[Lib.joinTail,List.map_cons,List.flatten_cons,List.length_append,List.length_cons,List.length_nil,wt]at this ⊢;omega
theorem c4f:∀l:List Str,(Lib.join l [32]).length<=wt l
 | []=>Nat.le_refl _
 | x::r=>by
  rw[Lib.join_cons,List.length_append];have:=jt_len r;simp only[wt];omega
theorem joins {l:List Str}(h:wt l<=2000000000000):c0Z l [32]=some (Lib.join l [32]):=by
 have h1:=c3n l;have h2:=c4f l;unfold c0Z leN;rw[decide_eq_true (show l.length<=140737488355328 by omega),decide_eq_true (show(Lib.join l [32]).length<=140737488355328 by omega)];rfl
end Go.Proofs.YtmippldlhnajkaaGreatDoor
