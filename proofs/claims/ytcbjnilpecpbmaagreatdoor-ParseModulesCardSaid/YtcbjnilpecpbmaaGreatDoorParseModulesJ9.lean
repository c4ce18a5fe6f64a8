/- What the functions under ParseModules compute, step by step, as functions in Lean: texts that were built one by one, joined. -/
import Derived.Test.YtcbjnilpecpbmaaGreatDoorParseModulesJ8
set_option maxRecDepth 100000
set_option maxHeartbeats 20000000
set_option linter.unusedSimpArgs false
set_option linter.unusedVariables false
set_option linter.unusedSectionVars false
namespace Go.Proofs.YtcbjnilpecpbmaaGreatDoor
open Go Go.Vm
def a4h {α:Type}(l:List Tok)(size:Int)(k:Nat)(sz:α->Nat)(Q:α->Prop)(p:Option (Rs (α×Int) (o7×Int)))(r:Option (α×Bool×Int×Int)):Prop :=
 (∃(x:α) (q:Nat),p=some (.ok (x,(q:Int)))/\r=some (x,true,(q:Int),-1)/\k<=q/\q<=l.length/\sz x+4*k<=4*q/\Q x) ∨
 (∃(x:α) (q:Nat) (pl:Int) (f:o7),p=some (.pan (f,(q:Int)))/\r=some (x,false,(q:Int),pl)/\k<=q/\q<=l.length/\a2m l size q pl f)
def SimA (l:List Tok)(size:Int)(k:Nat)(m0:List Nod)(p:Option (Rs (List Nod×Int) (o7×Int)))(r:Option (List Nod×Bool×Int×Int×List Nod)):Prop :=
 (∃(ys:List Nod) (q:Nat),p=some (.ok (ys,(q:Int)))/\r=some (m0++ys,true,(q:Int),-1,m0++ys)/\k<=q/\q<=l.length/\szN ys+4*k+8<=4*q /\ ∀x∈ys,G 6 x) ∨
 (∃(x y:List Nod) (q:Nat) (pl:Int) (f:o7),p=some (.pan (f,(q:Int)))/\r=some (x,false,(q:Int),pl,y)/\k<=q/\q<=l.length/\a2m l size q pl f)
def LV:List J3:=[(⟨[[124,124]],false⟩:J3),(⟨[[38,38]],false⟩:J3),(⟨[[61,61],[33,61],[60],[60,61],[62],[62,61]],true⟩:J3),(⟨[[43],[45]],false⟩:J3),(⟨[[42],[47],[37]],false⟩:J3)]
def a9N:Nat->List Str
 | 0=>[[124,124]]
 | 1=>[[38,38]]
 | 2=>[[61,61],[33,61],[60],[60,61],[62],[62,61]]
 | 3=>[[43],[45]]
 | _=>[[42],[47],[37]]
def lvAt (j:Nat):J3:=⟨a9N j,eqB (j:Int) 2⟩
def c2h (l:List Tok)(size:Int)(j k n n':Nat):Prop :=
 (∃(u:Nod) (q0:Nat) (x:Nod) (q:Nat),(j6.fs n).I9 l k size=some (.ok (u,(q0:Int)))/\(j6.fs n).N9 u (LV.drop j) l q0 size=some (.ok (x,(q:Int)))/\(j5.fs n').J2 j l size k (-1)=some (x,true,(q:Int),-1)/\k<=q/\q<=l.length/\x.sz+4*k<=4*q/\G 0 x) ∨
 (∃(x:Nod) (q:Nat) (pl:Int) (f:o7),(j6.fs n).I9 l k size=some (.pan (f,(q:Int)))/\(j5.fs n').J2 j l size k (-1)=some (x,false,(q:Int),pl)/\k<=q/\q<=l.length/\a2m l size q pl f) ∨
 (∃(u:Nod) (q0:Nat) (x:Nod) (q:Nat) (pl:Int) (f:o7),(j6.fs n).I9 l k size=some (.ok (u,(q0:Int)))/\(j6.fs n).N9 u (LV.drop j) l q0 size=some (.pan (f,(q:Int)))/\(j5.fs n').J2 j l size k (-1)=some (x,false,(q:Int),pl)/\k<=q/\q<=l.length/\a2m l size q pl f)
structure Hyp (l:List Tok)(size:Int)(c N:Nat):Prop where
 expr:∀k n n',c<=k->k<=l.length->N<=n->N<=n'->a4h l size k Nod.sz (G 0) ((j6.fs n).G8 l k size) ((j5.fs n').H8 l size k (-1))
 unary:∀k n n',c<=k->k<=l.length->N<=n->N<=n'->a4h l size k Nod.sz (G 0) ((j6.fs n).I9 l k size) ((j5.fs n').K5 l size k (-1))
 lev:∀j k n n',j<=5->c<=k->k<=l.length->N<=n->N<=n'->c2h l size j k n n'
 args:∀m0 k n n',List.length m0<=3000->c<=k->k<=l.length->N<=n->N<=n'->SimA l size k m0 ((j6.fs n).O7 l k size) ((j5.fs n').M5 m0 l size k (-1))
 stmts:∀k n n',c<=k->k<=l.length->N<=n->N<=n'->a4h l size k (fun x=>szN x+4) (fun x=>∀y∈x,G 1 y) ((j6.fs n).M8 l k size) ((j5.fs n').M9 l size k (-1))
 stmt:∀k n n',c<=k->k<=l.length->N<=n->N<=n'->a4h l size k Nod.sz (G 1) ((j6.fs n).K7 l k size) ((j5.fs n').K8 l size k (-1))
 block:∀k n n',c<=k->k<=l.length->N<=n->N<=n'->a4h l size k Nod.sz (G 2) ((j6.fs n).I8 l k size) ((j5.fs n').I6 l size k (-1))
 iff:∀k n n',isT l 9 [105,102] k=true->c<=k->k<=l.length->N<=n->N<=n'->a4h l size k Nod.sz (fun x=>G 1 x/\x.op=24) ((j6.fs n).L9 l k size) ((j5.fs n').M0 l size k (-1))
section
variable {l:List Tok} {size:Int} (C:Cx l size)
include C
theorem sgt {k:Nat}{a:UInt8}{r:Str}(h:isT l 8 (a::r) k=true):k+1<=l.length/\x9 (a::r) l k size=some (true,((k+1:Nat):Int))/\o6 (a::r) l size k (-1)=some (true,((k+1:Nat):Int))/\u7 (a::r) l k size=some (.ok ((k+1:Nat):Int))/\u6 0 8 (a::r) l k size=some true/\C8 8 (a::r) l size k (-1)=some true:=by
 rcases sgx C (Nat.le_of_lt (a2b h)) a r with⟨_,h⟩ |⟨h2,_⟩
 ·exact h
 ·rw[h]at h2;cases h2
theorem sgf {k:Nat}{a:UInt8}{r:Str}(hk:k<=l.length)(h:isT l 8 (a::r) k=false):x9 (a::r) l k size=some (false,(k:Int))/\o6 (a::r) l size k (-1)=some (false,(k:Int))/\u7 (a::r) l k size=some (.pan (I7 l size k,(k:Int)))/\u6 0 8 (a::r) l k size=some false/\C8 8 (a::r) l size k (-1)=some false:=by
 rcases sgx C hk a r with⟨h2,_⟩ |⟨_,h⟩
 ·rw[h]at h2;cases h2
 ·exact h
theorem nmt {k:Nat}(h:isK l 1 k=true):k+1<=l.length/\H7 l k size=some (.ok (N8 l k))/\q9 1 l size k (-1)=some (N8 l k,true,((k+1:Nat):Int))/\u6 0 1 [] l k size=some true:=by
 rcases nmx C (Nat.le_of_lt (b22 h))with⟨_,h⟩ |⟨h2,_⟩
 ·exact h
 ·rw[h]at h2;cases h2
theorem nmf {k:Nat}(hk:k<=l.length)(h:isK l 1 k=false):H7 l k size=some (.pan (I7 l size k))/\q9 1 l size k (-1)=some ([],false,(k:Int))/\u6 0 1 [] l k size=some false:=by
 rcases nmx C hk with⟨h2,_⟩ |⟨_,h⟩
 ·rw[h]at h2;cases h2
 ·exact h
theorem kdt {k:Nat}{kind:Int}(h:isK l kind k=true):k+1<=l.length /\ ∃t:Tok,idx' l (k:Int)=some t/\t.text=N8 l k/\t.at_=I7 l size k/\t.kind=kind/\u6 0 kind [] l k size=some true/\Q7 kind l size k (-1)=some true/\q9 kind l size k (-1)=some (N8 l k,true,((k+1:Nat):Int))/\L6 kind l k size=some (.ok t):=by
 rcases kdx C (Nat.le_of_lt (b22 h)) kind with⟨_,h⟩ |⟨h2,_⟩
 ·exact h
 ·rw[h]at h2;cases h2
theorem a7B {kind:Int}{s u:Str}{k:Nat}(h:isT l kind s k=true)(hn:s≠u):isT l kind u k=false:=by
 rw[b6F C]at h ⊢
 simp only[Bool.and_eq_true]at h
 have:N8 l k=s:=by simpa [eqS]using h.2
 rw[this]
 simp[eqS,hn]
theorem c0f {Φ:A7}{Ψ:j5}(n n' k0:Nat)(a:Int):∀(m m' k:Nat) (t:Typ),k<=l.length->l.length-k<m->l.length-k<m'->t.sz+k0<=k ->
  (∃(t':Typ) (q:Nat),P5 n Φ true size l m k t=some (.brk ((q:Int),t'))/\isT l 8 [40] q=true/\Z8 n' Ψ size l (-1) a true m' k t =((Ψ.M5 ([]:List Nod) l size q (-1)).bind fun(r10,r11,at12,a8F,a5Z)=>some (.out (((⟨59,[],0,t',[],r10,a⟩:Nod),r11,at12,a8F))))/\k<=q/\q<=l.length/\t'.sz+k0<=q) ∨
  (∃(t':Typ) (q:Nat),P5 n Φ true size l m k t=some (.brk ((q:Int),t'))/\isT l 8 [40] q=false/\isT l 8 [46] q=true/\isK l 1 (q+1)=true/\Z8 n' Ψ size l (-1) a true m' k t=cond (isT l 8 [40] (q+1+1)) ((Ψ.M5 ([]:List Nod) l size ((q+1+1:Nat):Int) (-1)).bind fun(r10,r11,at12,a8F,a5Z)=>some (.out (((⟨58,N8 l (q+1),1,t',[],r10,a⟩:Nod),r11,at12,a8F)))) (some (.out (((⟨58,N8 l (q+1),0,t',[],[],a⟩:Nod),true,((q+1+1:Nat):Int),-1))))/\k<=q/\q+2<=l.length/\t'.sz+k0<=q) ∨
  (∃(t':Typ) (q:Nat) (x:Nod),P5 n Φ true size l m k t=some (.brk ((q:Int),t'))/\isT l 8 [40] q=false/\isT l 8 [46] q=false/\Z8 n' Ψ size l (-1) a true m' k t=some (.out (x,false,(q:Int),-1))/\k<=q/\q<=l.length) ∨
  (∃(q:Nat) (x:Nod),P5 n Φ true size l m k t=some (.out (.pan (I7 l size q,(q:Int))))/\Z8 n' Ψ size l (-1) a true m' k t=some (.out (x,false,(q:Int),-1))/\k<=q/\q<=l.length)
 | 0,m',k,t,h1,h2,h3,h4=>by omega
 | m+1,0,k,t,h1,h2,h3,h4=>by omega
 | m+1,m'+1,k,t,h1,h2,h3,h4=>by
  have hl:=C.hl
  rw[P5.eq_2,Z8.eq_2,cond_true]
  cases hd:isT l 8 [46] k
  ·obtain⟨e1,e2,e3,e4,e5⟩:=sgf C h1 hd
   cases hp:isT l 8 [40] k
   ·obtain⟨f1,f2,f3,f4,f5⟩:=sgf C h1 hp
    simp (disch:=omega) only[e4,e2,f5,SSx C]
    exact .inr (.inr (.inl ⟨t,k,_,rfl,hp,hd,rfl,Nat.le_refl _,h1⟩))
   ·obtain⟨hb,f1,f2,f3,f4,f5⟩:=sgt C hp
    simp (disch:=omega) only[e4,f5,SSx C]
    exact .inl ⟨t,k,rfl,hp,rfl,Nat.le_refl _,h1,h4⟩
  ·obtain⟨hb,e1,e2,e3,e4,e5⟩:=sgt C hd
   have hp:isT l 8 [40] k=false:=a7B C hd (by decide)
   obtain⟨f1,f2,f3,f4,f5⟩:=sgf C h1 hp
   have i1:=is1_ok C hb 1
   cases hn:isK l 1 (k+1)
   ·obtain⟨g1,g2,g3⟩:=nmf C hb hn
    rw[hn]at i1
    rcases cap C.hl hb size (-1)with⟨c1,c2,c3,c4⟩ |⟨c2,c3⟩
    ·simp (disch:=omega) only[e4,e2,f5,i1,c2,c3,c4,SSx C]
     rcases c0f n n' k0 a m m' (k+1+1) ⟨8,N8 l (k+1),0,[t]⟩ c1 (by omega) (by omega) (by simp only[tsz,b5K];omega)with⟨t',q,y1,y2,y3,y4,y5,y6⟩ |⟨t',q,y1,y2,y3,y4,y5,y6,y7,y8⟩ |⟨t',q,x,y1,y2,y3,y4,y5,y6⟩ |⟨q,x,y1,y2,y3,y4⟩
     ·exact .inl ⟨t',q,y1,y2,y3,by omega,y5,y6⟩
     ·exact .inr (.inl ⟨t',q,y1,y2,y3,y4,y5,by omega,y7,y8⟩)
     ·exact .inr (.inr (.inl ⟨t',q,x,y1,y2,y3,y4,by omega,y6⟩))
     ·exact .inr (.inr (.inr ⟨q,x,y1,y2,by omega,y4⟩))
    ·simp (disch:=omega) only[e4,e2,f5,i1,c2,c3,g2,SSx C]
     exact .inr (.inr (.inr ⟨k+1,_,rfl,rfl,by omega,hb⟩))
   ·obtain⟨hc,g1,g2,g3⟩:=nmt C hn
    rw[hn]at i1
    have w2:q9 2 l size ((k+1:Nat):Int) (-1)=some ([],false,((k+1:Nat):Int)):=by
     rcases kdx C hb 2 with⟨c,_,t,t0,t1,t2,t3,_⟩ |⟨c,_,_,e,_⟩
     ·rcases kdx C hb 1 with⟨c',_,t',t0',t1',t2',t3',_⟩ |⟨c',_⟩
      ·rw[t0]at t0';cases t0';rw[t3]at t3';cases t3'
      ·rw[hn]at c';cases c'
     ·exact e
    have nx:=a9J C.hl hc size (-1) 8 [40]
    simp (disch:=omega) only[e4,e2,f5,i1,w2,g2,nx,SSx C]
    exact .inr (.inl ⟨t,k,rfl,hp,hd,hn,rfl,Nat.le_refl _,hc,h4⟩)
omit C in
theorem five {j:Nat}(h:j<5):j=0∨j=1∨j=2∨j=3∨j=4:=by omega
omit C in
theorem lv_get:∀{j:Nat},j<5->LV[j]? = some (lvAt j):=by
 intro j h
 rcases five h with rfl|rfl|rfl|rfl|rfl<;>simp[LV,lvAt,a9N,eqB]
omit C in
theorem lvk {i j:Nat}(hij:i<=j)(hj:j<5):idx' (LV.drop i) ((j-i:Nat):Int)=some (lvAt j):=by
 have h:j-i<(LV.drop i).length:=by simp[LV];omega
 rw[a2O h,List.getElem_drop]
 have:=lv_get hj
 rw[<-List.getElem?_eq_getElem,show i+(j-i)=j from by omega,this]
omit C in
theorem lsub {i j:Nat}(hij:i<=j)(hj:j<5):subL (LV.drop i) (w64 (((j-i:Nat):Int)+1)) ((LV.drop i).length:Int)=some (LV.drop (j+1)):=by
 have h:(LV.drop i).length=5-i:=by simp[LV]
 rw[a0r (by omega)]
 have h2:inI ((j-i+1:Nat):Int) ((LV.drop i).length:Int) (LV.drop i).length=true:=by rw[h];simp[inI];omega
 simp only[subL,h2,Int.toNat_natCast,List.take_length,List.drop_drop]
 rw[show i+(j-i+1)=j+1 from by omega]
omit C in
theorem rk {j:Nat}(hj:j<5):idx' ([[[124,124]],[[38,38]],[[61,61],[33,61],[60],[60,61],[62],[62,61]],[[43],[45]],[[42],[47],[37]]]:List (List Str)) (j:Int)=some (a9N j):=by
 rw[a2O (by simpa using hj)]
 rcases five hj with rfl|rfl|rfl|rfl|rfl<;>rfl
omit C in
theorem c1d {j:Nat}(hj:j<5):(a9N j).length<=6:=by
 rcases five hj with rfl|rfl|rfl|rfl|rfl<;>simp[a9N]
omit C in
theorem ops_ne {j:Nat}(hj:j<5){s:Str}(h:(a9N j).any (eqS s)=true):eqS s []=false:=by
 simp only[List.any_eq_true]at h
 obtain⟨u,h1,h2⟩:=h
 have h2:s=u:=by simpa [eqS]using h2
 subst h2
 have h3:¬s=[]:=by
  intro h0
  subst h0
  rcases five hj with rfl|rfl|rfl|rfl|rfl<;>simp[a9N]at h1
 simp[eqS,h3]
theorem fold_eq (k:Nat):∀(L:List Str) (o:Str),L.foldl (fun o s=>cond (isT l 8 s k) s o) o=cond (isK l 8 k&&L.any (eqS (N8 l k))) (N8 l k) o
 | [],o=>by simp
 | s::r,o=>by
  rw[List.foldl_cons,fold_eq k r,b6F C,List.any_cons]
  cases isK l 8 k
  ·rfl
  ·cases h:eqS (N8 l k) s
   ·simp
   ·have h:N8 l k=s:=by simpa [eqS]using h
    simp[h]
theorem find_ok {Ψ:j5}(n':Nat){j k:Nat}(hj:j<5)(hk:k<=l.length)(cnt:Int)(x:Nod):∀(m i:Nat) (o:Str),i <=(a9N j).length ->(a9N j).length-i<m ->
  a1r n' Ψ size j l m cnt o i k (-1) x=some (cnt,((a9N j).drop i).foldl (fun o s=>cond (isT l 8 s k) s o) o,(k:Int),-1,x)
 | 0,i,o,h1,h2=>by omega
 | m+1,i,o,h1,h2=>by
  have h6:=c1d hj
  simp only[a1r,rk hj,Option.bind_some]
  rcases Nat.lt_or_ge i (a9N j).length with h|h
  ·rw[a5H (by omega),cond_true,a2O h,Option.bind_some,a9J C.hl hk,Option.bind_some,List.drop_eq_getElem_cons h,List.foldl_cons,a0r (by omega)]
   cases hb:isT l 8 (a9N j)[i] k
   ·rw[cond_false,Option.bind_some,find_ok n' hj hk cnt x m (i+1) o h (by omega)];rfl
   ·simp only[cond_true,Option.bind_some]
    rw[find_ok n' hj hk cnt x m (i+1) _ h (by omega)]
  ·rw[a6G (by omega),cond_false,List.drop_eq_nil_of_le h];rfl
theorem hit_ok {n i j k:Nat} (hij:i <= j) (hj:j < 5) (hk:k <= l.length) (hn:10 <= n):(Option.bind (α:=Bool) (
      cond (ltB (k:Int) (List.length l:Int)) (
      (idx' l (k:Int)).bind fun x6 =>
      cond (eqB x6.kind 8) (
      (idx' (LV.drop i) ((j-i:Nat):Int)).bind fun x7 =>
      (idx' l (k:Int)).bind fun x8 =>
      (R7 n x7.ops x8.text).bind fun r9 =>
      some r9) (
      some false)) (
      some false)) fun x=>some x)=some (isK l 8 k&&(a9N j).any (eqS (N8 l k))):=by
  have h6:=c1d hj
  rcases Nat.lt_or_ge k l.length with h|h
  · have hT:N8 l k=l[k].text:=by unfold N8;rw[List.getElem?_eq_getElem h]
    have hK:isK l 8 k=eqB l[k].kind 8:=by unfold isK;rw[List.getElem?_eq_getElem h]
    rw[a5H (by omega),cond_true,a2O h,Option.bind_some,hT,hK]
    cases eqB l[k].kind 8
    · rfl
    · rw[cond_true,lvk hij hj,Option.bind_some,Option.bind_some]
      simp only[lvAt]
      rw[b6A _ _ (by omega) (by omega)];rfl
  · have hK:isK l 8 k=false:=by unfold isK;rw[List.getElem?_eq_none h]
    rw[a6G (by omega),cond_false,hK];rfl
theorem b9T {N n n' k0 i j:Nat}(hN:24000<=N)(hn:N<=n)(hn':N<=n')(hij:i<=j)(hj:j<5)(H:Hyp l size (k0+1) N)(z:Int):∀(m m' k:Nat) (cnt:Int) (x:Nod),(j=2->cnt=0)->k0<=k->k<=l.length->l.length-k<m->l.length-k+1<m'->x.sz+4*k0<=4*k->G 0 x ->
  (∃(y:Nod) (q:Nat),a0S n (j6.fs n) size (LV.drop i) l m ((j-i:Nat):Int) z k x=some (.brk (z,(q:Int),y))/\M4 (α:=Bool×Int×Int×Nod) (P8 n' (j5.fs n') size j l m' true cnt k (-1) x) (fun(b8j,b7F,a9d,n650)=>some ((n650,b8j,b7F,a9d)))=some (y,true,(q:Int),-1)/\k<=q/\q<=l.length/\y.sz+4*k0<=4*q/\G 0 y) ∨
  (∃(y:Nod) (q:Nat) (pl:Int) (f:o7),a0S n (j6.fs n) size (LV.drop i) l m ((j-i:Nat):Int) z k x=some (.out (.pan (f,(q:Int))))/\M4 (α:=Bool×Int×Int×Nod) (P8 n' (j5.fs n') size j l m' true cnt k (-1) x) (fun(b8j,b7F,a9d,n650)=>some ((n650,b8j,b7F,a9d)))=some (y,false,(q:Int),pl)/\k<=q/\q<=l.length/\a2m l size q pl f)
 | 0,m',k,cnt,x,h1,h2,h3,h4,h5,h6,h7=>by omega
 | m+1,0,k,cnt,x,h1,h2,h3,h4,h5,h6,h7=>by omega
 | m+1,1,k,cnt,x,h1,h2,h3,h4,h5,h6,h7=>by omega
 | m+1,m'+2,k,cnt,x,h1,h2,h3,h4,h5,h6,h7=>by
  have hl:=C.hl
  have hol:=c1d hj
  have hit:=hit_ok C (n:=n) hij hj h3 (by omega)
  have hf:=find_ok C (Ψ:=j5.fs n') n' hj h3 cnt x n' 0 [] (Nat.zero_le _) (by omega)
  rw[List.drop_zero,fold_eq C]at hf
  have hmore:(Option.bind (α:=Bool) (cond true (cond (!eqB (j:Int) 2) (some true) (some (eqB cnt 0))) (some false)) fun x=>some x)=some true:=by
   by_cases h2:j=2
   ·rw[h1 h2,a3V (show(j:Int)=2 from by omega),a3V (show(0:Int)=0 from rfl)];rfl
   ·rw[a6z (show ¬(j:Int)=2 from by omega)];rfl
  have oid:∀{o:Option Bool} {b:Bool},(o.bind fun x=>some x)=some b->o=some b:=fun{o b} h=>by cases o<;>exact h
  have hmore:=oid hmore
  have hit:=oid hit
  rw[a0S.eq_2,P8.eq_2,hmore,hit,Option.bind_some,Option.bind_some,cond_true]
  have hf:a1r n' (j5.fs n') size j l n' cnt [] 0 k (-1) x=_:=hf
  rw[hf,Option.bind_some]
  cases hh:(isK l 8 k&&(a9N j).any (eqS (N8 l k)))
  ·simp only[cond_false,a2B,cond_true,a4i,a0t]
   exact .inl ⟨x,k,rfl,rfl,Nat.le_refl _,h3,h6,h7⟩
  ·simp only[Bool.and_eq_true]at hh
   have hs:=ops_ne hj hh.2
   obtain⟨hb,t,t0,t1,t2,t3,_⟩:=kdt C hh.1
   have hT:isT l 8 (N8 l k) k=true:=by rw[b6F C,hh.1,a2B];rfl
   have g3:o6 (N8 l k) l size k (-1)=some (true,((k+1:Nat):Int)):=by
    rcases sg C.hl h3 size (-1) (N8 l k) hs with⟨_,_,_,g3,_⟩ |⟨g,_⟩
    ·exact g3
    ·rw[hT]at g;cases g
   simp only[cond_true,hs,cond_false,g3,Option.bind_some,t0,lsub hij hj,t1]
   rw[a0r (k:=k) (by omega),a0r (k:=j) (by omega)]
   rcases H.lev (j+1) (k+1) n n' (by omega) (by omega) hb hn hn' with⟨u,q0,y,q,p1,p2,p3,p4,p5,p6,p7⟩ |⟨y,q,pl,f,p1,p2,p3,p4,p5⟩ |⟨u,q0,y,q,pl,f,p1,p2,p3,p4,p5,p6⟩
   ·simp only[p1,p2,p3,P6,Option.bind_some,a2n,lvk hij hj]
    have hz:(⟨64,N8 l k,0,zT,[],[x,y],x.at_⟩:Nod).sz+4*k0<=4*q:=by simp only[szs];omega
    have hG:G 0 ⟨64,N8 l k,0,zT,[],[x,y],x.at_⟩:=.bin h7.at h7 p7
    cases ho:(lvAt j).once
    ·have hj2:¬j=2:=fun h=>by subst h;simp[lvAt,eqB]at ho
     simp only[cond_false]
     rcases b9T hN hn hn' hij hj H z m (m'+1) q (w64 (cnt+1)) _ (fun h=>absurd h hj2) (by omega) p5 (by omega) (by omega) hz hG with⟨y',q',y1,y2,y3,y4,y5,y6⟩ |⟨y',q',pl,f,y1,y2,y3,y4,y5⟩
     ·exact .inl ⟨y',q',y1,y2,by omega,y4,y5,y6⟩
     ·exact .inr ⟨y',q',pl,f,y1,y2,by omega,y4,y5⟩
    ·have hj2:j=2:=by
      rcases five hj with h|h|h|h|h<;>subst h<;>first|rfl |(simp[lvAt,eqB]at ho)
     have hc:=h1 hj2
     have e1:eqB (j:Int) 2=true:=a3V (by omega)
     have e2:eqB (w64 (cnt+1)) 0=false:=by rw[hc,a5l (by omega) (by omega)];exact a6z (by decide)
     simp only[cond_true,P8.eq_2,e1,e2,Bool.not_true,cond_false,Option.bind_some,a0s]
     exact .inl ⟨_,q,rfl,rfl,by omega,p5,hz,hG⟩
   ·simp only[p1,p2,O8,Option.bind_some,a2n,P8.eq_2,cond_false,a0s]
    exact .inr ⟨_,q,pl,f,rfl,rfl,by omega,p4,p5⟩
   ·simp only[p1,p2,p3,P6,O8,Option.bind_some,a2n,P8.eq_2,cond_false,a0s]
    exact .inr ⟨_,q,pl,f,rfl,rfl,by omega,p5,p6⟩
theorem chain {N n k i:Nat} (hN:24000 <= N) (hn:N <= n) (hk:k <= l.length) (H:Hyp l size (k + 1) N) (hi:i <= 5)
    (U:∀n',N+4<=n'->a4h l size k Nod.sz (G 0) ((j6.fs (n+1)).I9 l k size) ((j5.fs n').K5 l size k (-1))) :
    ∀(d j n':Nat),j+d=5->i<=j->N+5+d<=n' ->
    (∃(u:Nod) (q0:Nat) (x:Nod) (q:Nat),(j6.fs (n+1)).I9 l k size=some (.ok (u,(q0:Int)))/\(∀m,d<m->R5 n (j6.fs n) (LV.drop i) size l m 0 q0 u=R5 n (j6.fs n) (LV.drop i) size l (m-d) d q x)/\(j5.fs n').J2 j l size k (-1)=some (x,true,(q:Int),-1)/\k<=q/\q<=l.length/\x.sz+4*k<=4*q/\G 0 x) ∨
    (∃(x:Nod) (q:Nat) (pl:Int) (f:o7),(j6.fs (n+1)).I9 l k size=some (.pan (f,(q:Int)))/\(j5.fs n').J2 j l size k (-1)=some (x,false,(q:Int),pl)/\k<=q/\q<=l.length/\a2m l size q pl f) ∨
    (∃(u:Nod) (q0:Nat) (x:Nod) (q:Nat) (pl:Int) (f:o7),(j6.fs (n+1)).I9 l k size=some (.ok (u,(q0:Int)))/\(∀m,d<m->R5 n (j6.fs n) (LV.drop i) size l m 0 q0 u=some (.out (.pan (f,(q:Int)))))/\(j5.fs n').J2 j l size k (-1)=some (x,false,(q:Int),pl)/\k<=q/\q<=l.length/\a2m l size q pl f)
  | 0,j,n',h1,h2,h3=>by
    obtain⟨n',rfl⟩:∃q,n'=q+1:=⟨n'-1,by omega⟩
    have hl5:(j5.fs (n'+1)).J2 (j:Int) l size k (-1) =(j5.fs n').K5 l size k (-1):=by
      show a0z n' (j5.fs n') j l size k (-1)=_
      unfold a0z a6W
      rw[Option.bind_some,a3V (show(j:Int)=_ from by simp;omega),cond_true]
      cases(j5.fs n').K5 l size k (-1)<;>rfl
    rw[hl5]
    rcases U n' (by omega)with⟨x,q,p1,p2,p3,p4,p5,p6⟩ |⟨x,q,pl,f,p1,p2,p3,p4,p5⟩
    · exact .inl ⟨x,q,x,q,p1,fun m _=>rfl,p2,p3,p4,p5,p6⟩
    · exact .inr (.inl ⟨x,q,pl,f,p1,p2,p3,p4,p5⟩)
  | d+1,j,n',h1,h2,h3=>by
    have hl:=C.hl
    have hj:j<5:=by omega
    obtain⟨n',rfl⟩:∃q,n'=q+1:=⟨n'-1,by omega⟩
    have hlj:(j5.fs (n' + 1)).J2 (j:Int) l size k (-1) = ((j5.fs n').J2 ((j + 1:Nat):Int) l size k (-1)).bind fun (r10,r11,at12,a8F) =>
        M4 (α:=Bool×Int×Int×Nod) (P8 n' (j5.fs n') size j l n' r11 0 at12 a8F r10) fun(b8j,b7F,a9d,n650)=>some ((n650,b8j,b7F,a9d)):=by
      show a0z n' (j5.fs n') j l size k (-1)=_
      unfold a0z a6W
      rw[Option.bind_some,a6z (show ¬(j:Int)=_ from by simp;omega),cond_false,a0r (by omega)]
    rw[hlj]
    rcases chain hN hn hk H hi U d (j+1) n' (by omega) (by omega) (by omega)with⟨u,q0,x,q,p1,p2,p3,p4,p5,p6,p7⟩ |⟨x,q,pl,f,p1,p2,p3,p4,p5⟩ |⟨u,q0,x,q,pl,f,p1,p2,p3,p4,p5,p6⟩
    · rw[p3,Option.bind_some]
      have hlen:(LV.drop i).length=5-i:=by simp[LV]
      have step:∀m,0<m->R5 n (j6.fs n) (LV.drop i) size l m d q x=a3U (α:=Int×Int×Nod) (a0S n (j6.fs n) size (LV.drop i) l n ((j-i:Nat):Int) d q x) fun(x562,at563,n564)=>R5 n (j6.fs n) (LV.drop i) size l (m-1) (w64 (x562+1)) at563 n564:=by
        intro m hm
        obtain⟨m,rfl⟩:∃q,m=q+1:=⟨m-1,by omega⟩
        rw[R5.eq_2,a5H (by rw[hlen];omega),cond_true,Nat.add_sub_cancel]
        rw[show w64 (w64 (((LV.drop i).length:Int)-1)-(d:Int)) =((j-i:Nat):Int)from by
          rw[hlen,a5l (a:=((5-i:Nat):Int)-1) (by omega) (by omega),a5l (by omega) (by omega)];omega]
      rcases b9T C hN (n':=n') hn (by omega) h2 hj H (d:Int) n n' q 0 x (fun _=>rfl) p4 p5 (by omega) (by omega) p6 p7 with⟨y,q',y1,y2,y3,y4,y5,y6⟩ |⟨y,q',pl,f,y1,y2,y3,y4,y5⟩
      · refine .inl ⟨u,q0,y,q',p1,fun m hm=>?_,y2,by omega,y4,y5,y6⟩
        rw[p2 m (by omega),step (m-d) (by omega),y1,a2n]
        simp only
        rw[a0r (by omega),show m-d-1=m-(d+1)from by omega]
      · refine .inr (.inr ⟨u,q0,y,q',pl,f,p1,fun m hm=>?_,y2,by omega,y4,y5⟩)
        rw[p2 m (by omega),step (m-d) (by omega),y1,a4i]
    · rw[p2,Option.bind_some]
      obtain⟨n',rfl⟩:∃q,n'=q+1:=⟨n'-1,by omega⟩
      simp only[P8.eq_2,cond_false,Option.bind_some,a0s]
      exact .inr (.inl ⟨x,q,pl,f,p1,rfl,p3,p4,p5⟩)
    · rw[p3,Option.bind_some]
      obtain⟨n',rfl⟩:∃q,n'=q+1:=⟨n'-1,by omega⟩
      simp only[P8.eq_2,cond_false,Option.bind_some,a0s]
      exact .inr (.inr ⟨u,q0,x,q,pl,f,p1,fun m hm=>p2 m (by omega),rfl,p4,p5,p6⟩)
theorem lev_at {N n n' k j:Nat}(hN:24000<=N)(hn:N+1<=n)(hn':N+10<=n')(hk:k<=l.length)(H:Hyp l size (k+1) N)(hj:j<=5)
  (U:∀n',N+4<=n'->a4h l size k Nod.sz (G 0) ((j6.fs n).I9 l k size) ((j5.fs n').K5 l size k (-1))):c2h l size j k n n':=by
 obtain⟨n,rfl⟩:∃q,n=q+1:=⟨n-1,by omega⟩
 have hc:∀(u:Nod) (q:Int),(j6.fs (n+1)).N9 u (LV.drop j) l q size=M4 (α:=Int×Nod) (R5 n (j6.fs n) (LV.drop j) size l n 0 q u) fun(at568,n569)=>some (.ok (n569,at568)):=fun _ _=>rfl
 have hlen:(LV.drop j).length=5-j:=by simp[LV]
 unfold c2h
 rcases chain C hN (by omega) hk H hj U (5-j) j n' (by omega) (Nat.le_refl _) (by omega)with⟨u,q0,x,q,p1,p2,p3,p4,p5,p6,p7⟩ |⟨x,q,pl,f,p1,p2,p3,p4,p5⟩ |⟨u,q0,x,q,pl,f,p1,p2,p3,p4,p5,p6⟩
 ·refine .inl ⟨u,q0,x,q,p1,?_,p3,p4,p5,p6,p7⟩
  rw[hc,p2 n (by omega)]
  obtain⟨m,hm⟩:∃m,n-(5-j)=m+1:=⟨n-(5-j)-1,by omega⟩
  rw[hm,R5.eq_2,a6G (by rw[hlen];omega)]
  rfl
 ·exact .inr (.inl ⟨x,q,pl,f,p1,p2,p3,p4,p5⟩)
 ·refine .inr (.inr ⟨u,q0,x,q,pl,f,p1,?_,p3,p4,p5,p6⟩)
  rw[hc,p2 n (by omega)]
  rfl
theorem expr_at {N n n' k:Nat}(hn:N+2<=n)(hn':N+11<=n')(L:∀n n',N+1<=n->N+10<=n'->c2h l size 0 k n n') :
  a4h l size k Nod.sz (G 0) ((j6.fs n).G8 l k size) ((j5.fs n').H8 l size k (-1)):=by
 obtain⟨n,rfl⟩:∃q,n=q+1:=⟨n-1,by omega⟩
 obtain⟨n',rfl⟩:∃q,n'=q+1:=⟨n'-1,by omega⟩
 show a4h l size k Nod.sz (G 0) (a2E n (j6.fs n) l k size) (a2I n' (j5.fs n') l size k (-1))
 unfold a2E a2I a8D
 have e0:∀u (q:Int),(j6.fs n).N9 u ([(⟨[[124,124]],false⟩:J3),(⟨[[38,38]],false⟩:J3),(⟨[[61,61],[33,61],[60],[60,61],[62],[62,61]],true⟩:J3),(⟨[[43],[45]],false⟩:J3),(⟨[[42],[47],[37]],false⟩:J3)]:List J3) l q size =(j6.fs n).N9 u (LV.drop 0) l q size:=fun _ _=>rfl
 have e9:(j5.fs n').J2 0 l size k (-1) =(j5.fs n').J2 ((0:Nat):Int) l size k (-1):=rfl
 rw[e9]
 rcases L n n' (by omega) (by omega)with⟨u,q0,x,q,p1,p2,p3,p4,p5,p6,p7⟩ |⟨x,q,pl,f,p1,p2,p3,p4,p5⟩ |⟨u,q0,x,q,pl,f,p1,p2,p3,p4,p5,p6⟩
 ·simp only[p1,p3,P6,Option.bind_some,e0,p2]
  exact .inl ⟨x,q,rfl,rfl,p4,p5,p6,p7⟩
 ·simp only[p1,p2,O8,Option.bind_some]
  exact .inr ⟨x,q,pl,f,rfl,rfl,p3,p4,p5⟩
 ·simp only[p1,p3,P6,O8,Option.bind_some,e0,p2]
  exact .inr ⟨x,q,pl,f,rfl,rfl,p4,p5,p6⟩
end
end Go.Proofs.YtcbjnilpecpbmaaGreatDoor
namespace Go.Proofs.YtcbjnilpecpbmaaGreatDoor
open Go Go.Vm
theorem ev_app {acc:List Nod}{t e:Nod}(he:acc.length%2=0)(h:∀i x,acc[2*i]? = some x->x.op=52)(ht:t.op=52):(∀i x,(acc++[t])[2*i]? = some x->x.op=52) /\ ∀i x,(acc++[t]++[e])[2*i]? = some x->x.op=52:=by
 have h1:∀i x,(acc++[t])[2*i]? = some x->x.op=52:=by
  intro i x hx
  rw[List.getElem?_append]at hx
  split at hx
  ·exact h i x hx
  ·rename_i h3
   rcases Nat.eq_or_lt_of_le (Nat.le_of_not_lt h3)with h4|h4
   ·rw[<-h4,Nat.sub_self]at hx;cases hx;exact ht
   ·rw[List.getElem?_eq_none (by simp only[List.length_singleton];omega)]at hx;cases hx
 refine⟨h1,fun i x hx=>?_⟩
 rw[List.getElem?_append]at hx
 split at hx
 ·exact h1 i x hx
 ·rename_i h3
  rw[List.length_append,List.length_singleton]at h3 hx
  rw[List.getElem?_eq_none (by simp only[List.length_singleton];omega)]at hx;cases hx
section
variable {l:List Tok} {size:Int} (C:Cx l size)
include C
theorem b52 {a b:Int}{k:Nat}(h:isK l a k=true)(hn:a≠b):isK l b k=false:=by
 unfold isK at h ⊢
 cases hk:l[k]? with
 | none=>rfl
 | some t =>
  rw[hk]at h
  have:t.kind=a:=by simpa [eqB]using h
  exact a6z (by rw[this];exact hn)
theorem kdf {k:Nat}{kind:Int}(hk:k<=l.length)(h:isK l kind k=false):u6 0 kind [] l k size=some false/\Q7 kind l size k (-1)=some false/\q9 kind l size k (-1)=some ([],false,(k:Int))/\L6 kind l k size=some (.pan (I7 l size k)):=by
 rcases kdx C hk kind with⟨h2,_⟩ |⟨_,h⟩
 ·rw[h]at h2;cases h2
 ·exact h
theorem kyf {k:Nat}(hk:k<=l.length)(h:isK l 9 k=false)(a:UInt8)(r:Str):D9 (a::r) l k size=some (false,(k:Int))/\w9 (a::r) l size k (-1)=some (false,(k:Int)):=by
 rcases kyx C hk a r with⟨h2,_⟩ |⟨_,h1,h2,_⟩
 ·rw[b6F C,h]at h2;cases h2
 ·exact⟨h1,h2⟩
theorem b9s {N n n' k0:Nat}{m0:List Nod}(hN:24000<=N)(hn:N<=n)(hn':N<=n')(H:Hyp l size (k0+1) N)(hm0:m0.length<=3000):∀(m m' k:Nat) (xs:List Nod),k0+1<=k->k<=l.length->l.length-k<m->l.length-k+1<m'->szN xs+4*k0+4<=4*k ->(∀x∈xs,G 6 x) ->
  (∃(q:Nat) (ys:List Nod),a2c n (j6.fs n) size l m xs k=some (.brk (ys,(q:Int)))/\a05 n' (j5.fs n') size l m' (m0++xs) true k (-1)=some (.brk (m0++ys,(q:Int),-1))/\k<=q/\q<=l.length/\szN ys+4*k0+4<=4*q /\ ∀x∈ys,G 6 x) ∨
  (∃(q:Nat) (x y:List Nod) (pl:Int) (f:o7),a2c n (j6.fs n) size l m xs k=some (.out (.pan (f,(q:Int))))/\a05 n' (j5.fs n') size l m' (m0++xs) true k (-1)=some (.out (x,false,(q:Int),pl,y))/\k<=q/\q<=l.length/\a2m l size q pl f)
 | 0,m',k,xs,h0,h1,h2,h3,h4,h5=>by omega
 | m+1,0,k,xs,h0,h1,h2,h3,h4,h5=>by omega
 | m+1,1,k,xs,h0,h1,h2,h3,h4,h5=>by omega
 | m+1,m'+2,k,xs,h0,h1,h2,h3,h4,h5=>by
  have hl:=C.hl
  have hlen:=a0Z xs
  have elem:(∃(q:Nat) (y:Nod),((x9 [38] l k size).bind fun(r8,at9) =>
   cond r8 (
   A8 (a02 n l at9 size) (fun(r10,at11) =>
   (app 144 xs ([(⟨62,[],0,(⟨0,[],0,[]⟩:Typ),[],[r10],I7 l size k⟩:Nod)]:List Nod)).bind fun l12 =>
   some (.brk (l12,at11))) fun(at13,at14) =>
   some (.out (.pan ((⟨(⟨20,at13⟩:Flt)⟩:o7),at14)))) (
   A8 ((j6.fs n).G8 l at9 size) (fun(r15,at16) =>
   (app 144 xs ([r15]:List Nod)).bind fun l17 =>
   some (.brk (l17,at16))) fun(e18,at19) =>
   some (.out (.pan (e18,at19)))))=some (Lr.brk (α:=List Nod×Int) (ρ:=Rs (List Nod×Int) (o7×Int)) (xs++[y],(q:Int)))/\((o6 [38] l size k (-1)).bind fun(r11,at12) =>
   cond r11 (
   (a1q n' l size at12 (-1)).bind fun(r13,r14,at15) =>
   some (r14,at15,-1,(⟨62,[],0,(⟨0,[],0,[]⟩:Typ),[],[r13],I7 l size k⟩:Nod))) (
   ((j5.fs n').H8 l size at12 (-1)).bind fun(r16,r17,at18,b5q) =>
   some (r17,at18,b5q,r16)))=some (true,(q:Int),-1,y)/\k<=q/\q<=l.length/\y.sz+4*k<=4*q/\G 6 y) ∨
   (∃(q:Nat) (y:Nod) (pl:Int) (f:o7),((x9 [38] l k size).bind fun(r8,at9) =>
   cond r8 (
   A8 (a02 n l at9 size) (fun(r10,at11) =>
   (app 144 xs ([(⟨62,[],0,(⟨0,[],0,[]⟩:Typ),[],[r10],I7 l size k⟩:Nod)]:List Nod)).bind fun l12 =>
   some (.brk (l12,at11))) fun(at13,at14) =>
   some (.out (.pan ((⟨(⟨20,at13⟩:Flt)⟩:o7),at14)))) (
   A8 ((j6.fs n).G8 l at9 size) (fun(r15,at16) =>
   (app 144 xs ([r15]:List Nod)).bind fun l17 =>
   some (.brk (l17,at16))) fun(e18,at19) =>
   some (.out (.pan (e18,at19)))))=some (Lr.out (α:=List Nod×Int) (ρ:=Rs (List Nod×Int) (o7×Int)) (.pan (f,(q:Int))))/\((o6 [38] l size k (-1)).bind fun(r11,at12) =>
   cond r11 (
   (a1q n' l size at12 (-1)).bind fun(r13,r14,at15) =>
   some (r14,at15,-1,(⟨62,[],0,(⟨0,[],0,[]⟩:Typ),[],[r13],I7 l size k⟩:Nod))) (
   ((j5.fs n').H8 l size at12 (-1)).bind fun(r16,r17,at18,b5q) =>
   some (r17,at18,b5q,r16)))=some (false,(q:Int),pl,y)/\k<=q/\q<=l.length/\a2m l size q pl f):=by
   rcases sgx C h1 38 []with⟨b,hb,e1,e2,e3,e4,e5⟩ |⟨b,e1,e2,e3,e4,e5⟩
   ·rw[e1,e2]
    simp only[Option.bind_some,cond_true]
    rcases c7L C (n:=n) (n':=n') hb (by omega) (by omega)with⟨x,q,p1,p2,p3,p4,p5,p6,p7⟩ |⟨x,q,p1,p2,p3,p4⟩
    ·simp only[p1,p2,P6,Option.bind_some]
     rw[a6d (by omega) (by simp) (by omega)]
     exact .inl ⟨q,_,rfl,rfl,by omega,p4,by simp only[szs];omega,.lend (C.pos k) p6⟩
    ·simp only[p1,p2,O8,Option.bind_some]
     exact .inr ⟨q,_,-1,_,rfl,rfl,by omega,p4,Z9 l size q⟩
   ·rw[e1,e2]
    simp only[Option.bind_some,cond_false]
    rcases H.expr k n n' h0 h1 hn hn' with⟨x,q,p1,p2,p3,p4,p5,p6⟩ |⟨x,q,pl,f,p1,p2,p3,p4,p5⟩
    ·simp only[p1,p2,P6,Option.bind_some]
     rw[a6d (by omega) (by simp) (by omega)]
     exact .inl ⟨q,x,rfl,rfl,p3,p4,p5,.arg p6⟩
    ·simp only[p1,p2,O8,Option.bind_some]
     exact .inr ⟨q,_,pl,f,rfl,rfl,p3,p4,p5⟩
  rw[a2c.eq_2,a05.eq_2,a9K C h1,a6i C.hl h1,cond_true,Option.bind_some,Option.bind_some]
  rcases elem with⟨q,y,g1,g2,g3,g4,g5,g6⟩ |⟨q,y,pl,f,g1,g2,g3,g4,g5⟩
  ·rw[g1,g2]
   have hy:=y.a2t
   have a2:app 144 (m0++xs) [y]=some (m0 ++(xs++[y])):=by
    rw[<-List.append_assoc];exact a6d (by simp only[List.length_append];omega) (by simp) (by omega)
   simp only[a2n,Option.bind_some,Bool.not_true,cond_false,a2]
   rcases sgx C g4 44 []with⟨b,hb,e1,e2,e3,e4,e5⟩ |⟨b,e1,e2,e3,e4,e5⟩
   ·simp only[e1,e2,Option.bind_some,Bool.not_true,cond_false]
    rcases b9s hN hn hn' H hm0 m (m'+1) (q+1) (xs++[y]) (by omega) hb (by omega) (by omega) (by simp only[szs];omega) (a6y h5 (a5m g6))with⟨q',ys,y1,y2,y3,y4,y5,y6⟩ |⟨q',x',y',pl,f,y1,y2,y3,y4,y5⟩
    ·exact .inl ⟨q',ys,y1,y2,by omega,y4,y5,y6⟩
    ·exact .inr ⟨q',x',y',pl,f,y1,y2,by omega,y4,y5⟩
   ·simp only[e1,e2,Option.bind_some,Bool.not_false,cond_true,a05.eq_2,cond_false]
    exact .inl ⟨q,_,rfl,rfl,by omega,g4,by simp only[szs];omega,a6y h5 (a5m g6)⟩
  ·rw[g1,g2]
   simp only[a4i,Option.bind_some,Bool.not_false,cond_true]
   exact .inr ⟨q,_,_,pl,f,rfl,rfl,by omega,g4,g5⟩
theorem args_at {N n n' k:Nat}{m0:List Nod}(hN:24000<=N)(hn:N+1<=n)(hn':N+1<=n')(hk:k<=l.length)(H:Hyp l size (k+1) N)(hm0:m0.length<=3000) :
  SimA l size k m0 ((j6.fs n).O7 l k size) ((j5.fs n').M5 m0 l size k (-1)):=by
 have hl:=C.hl
 obtain⟨n,rfl⟩:∃q,n=q+1:=⟨n-1,by omega⟩
 obtain⟨n',rfl⟩:∃q,n'=q+1:=⟨n'-1,by omega⟩
 show SimA l size k m0 (a2D n (j6.fs n) l k size) (a2H n' (j5.fs n') m0 l size k (-1))
 unfold a2D a2H
 rcases sgx C hk 40 []with⟨b,hb,e1,e2,e3,e4,e5⟩ |⟨b,e1,e2,e3,e4,e5⟩
 ·simp (disch:=omega) only[e2,e3,SSx C]
  rcases sgx C hb 41 []with⟨b,hb2,e1,e2,e3,e4,e5⟩ |⟨b,e1,e2,e3,e4,e5⟩
  ·simp (disch:=omega) only[e1,e2,SSx C]
   exact .inl ⟨[],k+1+1,rfl,by rw[List.append_nil],by omega,hb2,by simp only[szs];omega,all_nil⟩
  ·simp (disch:=omega) only[e1,e2,SSx C]
   have h:=b9s C (n:=n) (n':=n') hN (by omega) (by omega) H hm0 n n' (k+1) [] (by omega) hb (by omega) (by omega) (by simp only[szs];omega) all_nil
   rw[List.append_nil]at h
   rcases h with⟨q',ys,y1,y2,y3,y4,y5,y6⟩ |⟨q',x',y',pl,f,y1,y2,y3,y4,y5⟩
   ·simp only[y1,y2,a0s]
    rcases sgx C y4 41 []with⟨b,hb2,e1,e2,e3,e4,e5⟩ |⟨b,e1,e2,e3,e4,e5⟩
    ·simp (disch:=omega) only[e2,e3,SSx C]
     exact .inl ⟨ys,q'+1,rfl,rfl,by omega,hb2,by omega,y6⟩
    ·simp (disch:=omega) only[e2,e3,SSx C]
     exact .inr ⟨_,_,q',-1,_,rfl,rfl,by omega,y4,Z9 l size q'⟩
   ·simp only[y1,y2,a0t]
    exact .inr ⟨_,_,q',pl,f,rfl,rfl,by omega,y4,y5⟩
 ·simp (disch:=omega) only[e2,e3,SSx C]
  exact .inr ⟨_,_,k,-1,_,rfl,rfl,Nat.le_refl _,hk,Z9 l size k⟩
theorem b6D {N n n' k0:Nat}{a:Int}(ha:0<=a)(hN:24000<=N)(hn:N<=n)(hn':N<=n')(H:Hyp l size (k0+1) N):∀(m m' k:Nat) (xs:List Nod) (s:Str) (z:Int),k0<=k->k<=l.length->l.length-k<m->l.length-k+1<m'->szN xs+4*k0<=4*k ->(∀x∈xs,G 0 x)->xs.length%2=0 ->(∀i x,xs[2*i]? = some x->x.op=52) ->(isK l 5 k=true∨isK l 6 k=true) ->
  a4h l size k0 Nod.sz (G 0) (a2U n (j6.fs n) a size l m ((k+1:Nat):Int) (xs++[(⟨52,N8 l k,0,zT,[],[],I7 l size k⟩:Nod)]) s z) (a0f n' (j5.fs n') size l a m' k (-1) xs)
 | 0,m',k,xs,s,z,h1,h2,h3,h4,h5,h6,h7,h8,h9=>by omega
 | m+1,0,k,xs,s,z,h1,h2,h3,h4,h5,h6,h7,h8,h9=>by omega
 | m+1,1,k,xs,s,z,h1,h2,h3,h4,h5,h6,h7,h8,h9=>by omega
 | m+1,m'+2,k,xs,s,z,h1,h2,h3,h4,h5,h6,h7,h8,h9=>by
  have hl:=C.hl
  have hlen:=a0Z xs
  obtain⟨kd,hkd,hK⟩:∃kd,¬kd=7/\isK l kd k=true:=by
   rcases h9 with h|h
   ·exact⟨5,by decide,h⟩
   ·exact⟨6,by decide,h⟩
  obtain⟨hb,t,t0,t1,t2,t3,_⟩:=kdt C hK
  rw[a2U.eq_2,a0f.eq_2,t0,Option.bind_some,t1,t2,t3,a6z hkd]
  have a1:app 144 xs [(⟨52,N8 l k,0,zT,[],[],I7 l size k⟩:Nod)]=some (xs++[(⟨52,N8 l k,0,zT,[],[],I7 l size k⟩:Nod)]):=a6d (by omega) (by simp) (by omega)
  rw[a1,Option.bind_some,cond_false,a0r (by omega)]
  rcases H.expr (k+1) n n' (by omega) hb hn hn' with⟨x,q,p1,p2,p3,p4,p5,p6⟩ |⟨x,q,pl,f,p1,p2,p3,p4,p5⟩
  ·have hx:=x.a2t
   have ev:=ev_app (t:=(⟨52,N8 l k,0,zT,[],[],I7 l size k⟩:Nod)) (e:=x) h7 h8 rfl
   have gt:G 0 (⟨52,N8 l k,0,zT,[],[],I7 l size k⟩:Nod):=.text (C.pos k)
   have a2:app 144 (xs++[(⟨52,N8 l k,0,zT,[],[],I7 l size k⟩:Nod)]) [x]=some (xs++[(⟨52,N8 l k,0,zT,[],[],I7 l size k⟩:Nod)]++[x]):=a6d (by simp only[List.length_append,List.length_singleton];omega) (by simp) (by omega)
   simp (disch:=omega) only[p1,p2,a2,SSx C]
   generalize hys:xs++[(⟨52,N8 l k,0,zT,[],[],I7 l size k⟩:Nod)]++[x]=ys at *
   have hyl:ys.length=xs.length+2:=by rw[<-hys];simp
   have hyz:szN ys+4*k0<=4*q:=by rw[<-hys];simp only[szs];omega
   have hyg:∀x∈ys,G 0 x:=by rw[<-hys];exact a6y (a6y h6 (a5m gt)) (a5m p6)
   have a3:app 144 ys [(⟨52,N8 l q,0,zT,[],[],I7 l size q⟩:Nod)]=some (ys++[(⟨52,N8 l q,0,zT,[],[],I7 l size q⟩:Nod)]):=a6d (by omega) (by simp) (by omega)
   rcases kdx C p4 6 with⟨c,hc,u,u0,u1,u2,u3,e1,e2,e3,e4⟩ |⟨c,e1,e2,e3,e4⟩
   ·simp (disch:=omega) only[e1,e2,e4,u1,a3,SSx C]
    have h:=b6D ha hN hn hn' H m (m'+1) q ys (N8 l q) (I7 l size q) (by omega) p4 (by omega) (by omega) hyz hyg (by omega) ev.2 (.inr c)
    exact h
   ·simp (disch:=omega) only[e1,e2,SSx C]
    rcases kdx C p4 7 with⟨c,hc,u,u0,u1,u2,u3,e1,e2,e3,e4⟩ |⟨c,e1,e2,e3,e4⟩
    ·simp (disch:=omega) only[e2,e4,u1,a3,a0f.eq_2,u0,u2,u3,a3V (show(7:Int)=7 from rfl),SSx C]
     refine .inl ⟨_,q+1,rfl,rfl,by omega,hc,by simp only[szs];omega,.interp ha (a6y hyg (a5m (.text (C.pos q)))) ?_ (by rw[List.length_append,List.length_singleton];omega) (by rw[List.length_append,List.length_singleton];omega)⟩
     exact(ev_app (t:=(⟨52,N8 l q,0,zT,[],[],I7 l size q⟩:Nod)) (e:=x) (by omega) ev.2 rfl).1
    ·simp (disch:=omega) only[e2,e4,SSx C]
     exact .inr ⟨_,q,-1,_,rfl,rfl,by omega,p4,Z9 l size q⟩
  ·simp (disch:=omega) only[p1,p2,SSx C]
   exact .inr ⟨_,q,pl,f,rfl,rfl,by omega,p4,p5⟩
theorem c7C {N n n' k:Nat}(hN:24000<=N)(hn:N+1<=n)(hn':N+1<=n')(hK:isK l 5 k=true)(H:Hyp l size (k+1) N) :
  a4h l size k Nod.sz (G 0) ((j6.fs n).V6 l k size) ((j5.fs n').O3 l size k (-1)):=by
 have hl:=C.hl
 obtain⟨n,rfl⟩:∃q,n=q+1:=⟨n-1,by omega⟩
 obtain⟨n',rfl⟩:∃q,n'=q+1:=⟨n'-1,by omega⟩
 show a4h l size k Nod.sz (G 0) (a1I n (j6.fs n) l k size) (a0q n' (j5.fs n') l size k (-1))
 unfold a1I a0q
 obtain⟨hb,t,t0,t1,t2,t3,e1,e2,e3,e4⟩:=kdt C hK
 have hk:k<=l.length:=by omega
 simp (disch:=omega) only[e4,t1,SSx C]
 exact b6D C (C.pos k) (n:=n) (n':=n') hN (by omega) (by omega) H n n' k [] _ _ (Nat.le_refl _) hk (by omega) (by omega) (by simp only[szs];omega) all_nil rfl (fun i x h=>by cases h) (.inl hK)
theorem clos_at {N n n' k:Nat}(hN:24000<=N)(hn:N+1<=n)(hn':N+1<=n')(hT:isT l 8 [123] k=true)(H:Hyp l size (k+1) N) :
  a4h l size k Nod.sz (G 0) ((j6.fs n).T9 l k size) ((j5.fs n').U1 l size k (-1)):=by
 have hl:=C.hl
 obtain⟨n,rfl⟩:∃q,n=q+1:=⟨n-1,by omega⟩
 obtain⟨n',rfl⟩:∃q,n'=q+1:=⟨n'-1,by omega⟩
 show a4h l size k Nod.sz (G 0) (a1h n (j6.fs n) l k size) (a1o n' (j5.fs n') l size k (-1))
 unfold a1h a1o
 obtain⟨hb,e1,e2,e3,e4,e5⟩:=sgt C hT
 have hk:k<=l.length:=by omega
 rw[a9K C hk,a9K C hk,a6i C.hl hk,e2,e3]
 simp only[Option.bind_some,P6]
 rcases b8n C (m0:=[]) (n:=n) (n':=n') hb (by omega) (by omega) (by simp)with⟨q,ys,p1,p2,p3,p4,p5,p6,p7⟩ |⟨q,ys,p1,p2,p3,p4,p5⟩ |⟨p1,p2⟩
 ·rw[List.nil_append]at p3
  have hlen:=a0Z ys
  simp only[p1,p2,p3,P6,Option.bind_some,Bool.not_true,cond_false]
  have res:(∃(t:Typ) (q':Nat),Y1 n l q size=some (.ok (t,(q':Int)))/\((o6 [45,62] l size q (-1)).bind fun(r13,at14) =>
   cond r13 (
   (F6 n' l size at14 (-1)).bind fun(r15,r16,at17) =>
   cond (!r16) (
   some (.out (((⟨63,[],0,(⟨4,[],0,[]⟩:Typ),[],[],I7 l size k⟩:Nod),false,at17,(-1:Int))))) (
   some (.brk (at17,r15.kind,r15.name,r15.n,r15.args)))) (
   some (.brk (at14,4,[],0,([]:List Typ)))))=some (Lr.brk (ρ:=Nod×Bool×Int×Int) ((q':Int),t.kind,t.name,t.n,t.args))/\q<=q'/\q'<=l.length/\t.sz+q<=q'+1) ∨
   (∃(x:Nod) (q':Nat),Y1 n l q size=some (.pan (I7 l size q',(q':Int)))/\((o6 [45,62] l size q (-1)).bind fun(r13,at14) =>
   cond r13 (
   (F6 n' l size at14 (-1)).bind fun(r15,r16,at17) =>
   cond (!r16) (
   some (.out (((⟨63,[],0,(⟨4,[],0,[]⟩:Typ),[],[],I7 l size k⟩:Nod),false,at17,(-1:Int))))) (
   some (.brk (at17,r15.kind,r15.name,r15.n,r15.args)))) (
   some (.brk (at14,4,[],0,([]:List Typ)))))=some (Lr.out (α:=Int×Int×Str×Int×List Typ) (x,false,(q':Int),-1))/\q<=q'/\q'<=l.length):=by
   unfold Y1
   rcases sgx C p5 45 [62]with⟨b,hb,e1,e2,e3,e4,e5⟩ |⟨b,e1,e2,e3,e4,e5⟩
   ·rw[e1,e2]
    simp only[Option.bind_some,cond_true]
    rcases typ4 C (n:=n) (n':=n') hb (by omega) (by omega)with⟨t,r,g1,g2,g3,g4,g5⟩ |⟨t,r,g1,g2,g3,g4⟩
    ·simp only[g1,g2,Option.bind_some,P6,Bool.not_true,cond_false]
     exact .inl ⟨t,r,rfl,rfl,by omega,g4,by omega⟩
    ·simp only[g1,g2,Option.bind_some,O8,Bool.not_false,cond_true]
     exact .inr ⟨_,r,rfl,rfl,by omega,g4⟩
   ·rw[e1,e2]
    simp only[Option.bind_some,cond_false]
    exact .inl ⟨⟨4,[],0,[]⟩,q,rfl,rfl,Nat.le_refl _,p5,by simp only[tsz,a9X];omega⟩
  rcases res with⟨t,q',g1,g2,g3,g4,g5⟩ |⟨x,q',g1,g2,g3,g4⟩
  ·simp only at g2
   simp only[g1,g2,P6,a0s]
   rcases kyx C g4 105 [110]with⟨b,hb2,e1,e2,e3,e4,e5⟩ |⟨b,e1,e2,e3,e4,e5⟩
   ·simp (disch:=omega) only[e2,e3,SSx C]
    rcases H.stmts (q'+1) n n' (by omega) hb2 (by omega) (by omega)with⟨x,q2,s1,s2,s3,s4,s5,s6⟩ |⟨x,q2,pl,f,s1,s2,s3,s4,s5⟩
    ·have a1:app 144 ys [(⟨20,[],0,zT,[],x,I7 l size k⟩:Nod)]=some (ys++[(⟨20,[],0,zT,[],x,I7 l size k⟩:Nod)]):=a6d (by omega) (by simp) (by omega)
     simp (disch:=omega) only[s1,s2,a1,SSx C]
     have s5:szN x+4+4*(q'+1)<=4*q2:=s5
     exact .inl ⟨⟨63,[],0,t,[],ys++[⟨20,[],0,zT,[],x,I7 l size k⟩],I7 l size k⟩,q2,rfl,by rw[a8V],by omega,s4,by simp only[szs];omega,.clos (C.pos k) p7 s6⟩
    ·simp (disch:=omega) only[s1,s2,SSx C]
     have hx:x.length<=x.length:=Nat.le_refl _
     rcases hap:app 144 ys [(⟨20,[],0,zT,[],x,I7 l size k⟩:Nod)]with _|L
     ·rw[a6d (by omega) (by simp) (by omega)]at hap;cases hap
     ·exact .inr ⟨_,q2,pl,f,rfl,rfl,by omega,s4,s5⟩
   ·simp (disch:=omega) only[e2,e3,SSx C]
    exact .inr ⟨_,q',-1,_,rfl,rfl,by omega,g4,Z9 l size q'⟩
  ·simp only at g2
   simp only[g1,g2,O8,a0t]
   exact .inr ⟨_,q',-1,_,rfl,rfl,by omega,g4,Z9 l size q'⟩
 ·simp only[p1,p2,p3,O8,Option.bind_some,Bool.not_true,Bool.not_false,cond_true,cond_false]
  exact .inr ⟨_,q,-1,_,rfl,rfl,by omega,p5,Z9 l size q⟩
 ·simp only[p1,p2,O8,Option.bind_some,Bool.not_true,Bool.not_false,cond_true,cond_false]
  exact .inr ⟨_,k+1,-1,_,rfl,rfl,by omega,hb,Z9 l size (k+1)⟩
end
end Go.Proofs.YtcbjnilpecpbmaaGreatDoor
namespace Go.Proofs.YtcbjnilpecpbmaaGreatDoor
open Go Go.Vm
section
variable {l:List Tok} {size:Int} (C:Cx l size)
include C
theorem b9X {N n n' k0:Nat}{a:Int}(hN:24000<=N)(hn:N<=n)(hn':N<=n')(H:Hyp l size (k0+1) N):∀(m m' k:Nat) (xs:List Nod),k0<=k->k<=l.length->l.length-k<m->l.length-k<m'->szN xs+4*k0<=4*k ->(∀x∈xs,G 0 x) ->
  (∃(q:Nat) (ys:List Nod),a1H n (j6.fs n) size l m k xs=some (.brk ((q:Int),ys))/\((o6 [44] l size k (-1)).bind fun(r45,at46)=>a0U n' (j5.fs n') size l a m' r45 at46 (-1) xs)=some (.brk ((q:Int),-1,ys))/\k<=q/\q<=l.length/\szN ys+4*k0<=4*q /\ ∀x∈ys,G 0 x) ∨
  (∃(q:Nat) (y:Nod) (pl:Int) (f:o7),a1H n (j6.fs n) size l m k xs=some (.out (.pan (f,(q:Int))))/\((o6 [44] l size k (-1)).bind fun(r45,at46)=>a0U n' (j5.fs n') size l a m' r45 at46 (-1) xs)=some (.out (y,false,(q:Int),pl))/\k<=q/\q<=l.length/\a2m l size q pl f)
 | 0,m',k,xs,h1,h2,h3,h4,h5,h6=>by omega
 | m+1,0,k,xs,h1,h2,h3,h4,h5,h6=>by omega
 | m+1,m'+1,k,xs,h1,h2,h3,h4,h5,h6=>by
  have hl:=C.hl
  have hlen:=a0Z xs
  rw[a1H.eq_2]
  rcases sgx C h2 44 []with⟨b,hb,e1,e2,e3,e4,e5⟩ |⟨b,e1,e2,e3,e4,e5⟩
  ·rw[e1,e2]
   simp only[Option.bind_some,cond_true,a0U.eq_2]
   rcases H.expr (k+1) n n' (by omega) hb hn hn' with⟨x,q,p1,p2,p3,p4,p5,p6⟩ |⟨x,q,pl,f,p1,p2,p3,p4,p5⟩
   ·have a1:app 144 xs [x]=some (xs++[x]):=a6d (by omega) (by simp) (by omega)
    have hx:=x.a2t
    simp only[p1,p2,a1,P6,Option.bind_some,Bool.not_true,cond_false]
    rcases b9X hN hn hn' H m m' q (xs++[x]) (by omega) p4 (by omega) (by omega) (by simp only[szs];omega) (a6y h6 (a5m p6))with⟨q',ys,y1,y2,y3,y4,y5,y6⟩ |⟨q',y,pl,f,y1,y2,y3,y4,y5⟩
    ·exact .inl ⟨q',ys,y1,y2,by omega,y4,y5,y6⟩
    ·exact .inr ⟨q',y,pl,f,y1,y2,by omega,y4,y5⟩
   ·simp only[p1,p2,O8,Option.bind_some,Bool.not_false,cond_true]
    exact .inr ⟨q,_,pl,f,rfl,rfl,by omega,p4,p5⟩
  ·rw[e1,e2]
   exact .inl ⟨k,xs,rfl,rfl,Nat.le_refl _,h2,h5,h6⟩
theorem atom_at {N n n' k:Nat}(hN:24000<=N)(hn:N+2<=n)(hn':N+2<=n')(hk:k<=l.length)(H:Hyp l size (k+1) N)(h1:isK l 1 k=false) :
  a4h l size k Nod.sz (G 0) ((j6.fs n).V9 l k size) ((j5.fs n').W9 l size k (-1)):=by
 have hl:=C.hl
 obtain⟨n,rfl⟩:∃q,n=q+1:=⟨n-1,by omega⟩
 obtain⟨n',rfl⟩:∃q,n'=q+1:=⟨n'-1,by omega⟩
 show a4h l size k Nod.sz (G 0) (a0L n (j6.fs n) l k size) (a0M n' (j5.fs n') l size k (-1))
 unfold a0L a0M
 rcases inx C hk with⟨c,hb,v,v0,e1,e2,e3,e4⟩ |⟨c,e1,e2,e3⟩
 ·simp (disch:=omega) only[e1,e2,e3,e4,SSx C]
  exact .inl ⟨_,k+1,rfl,rfl,by omega,hb,by simp only[szs];omega,.int v0 (C.pos k)⟩
 simp (disch:=omega) only[e2,e3,SSx C]
 rcases kdx C hk 4 with⟨c,hb,t,t1,t2,t3,t4,e1,e2,e3,e4⟩ |⟨c,e1,e2,e3,e4⟩
 ·simp (disch:=omega) only[e1,e3,e4,t2,SSx C]
  exact .inl ⟨_,k+1,rfl,rfl,by omega,hb,by simp only[szs];omega,.text (C.pos k)⟩
 simp (disch:=omega) only[e1,e3,SSx C]
 rcases kdx C hk 5 with⟨c,hb,t,t1,t2,t3,t4,e1,e2,e3,e4⟩ |⟨c,e1,e2,e3,e4⟩
 ·simp (disch:=omega) only[e1,e2,SSx C]
  rcases c7C C (n:=n) (n':=n') hN (by omega) (by omega) c H with⟨x,q,p1,p2,p3,p4,p5,p6⟩ |⟨x,q,pl,f,p1,p2,p3,p4,p5⟩
  ·simp only[p1,p2,P6,Option.bind_some,a0t]
   exact .inl ⟨x,q,rfl,rfl,p3,p4,p5,p6⟩
  ·simp only[p1,p2,O8,Option.bind_some,a0t]
   exact .inr ⟨x,q,pl,f,rfl,rfl,p3,p4,p5⟩
 simp (disch:=omega) only[e1,e2,SSx C]
 rcases kyx C hk 116 [114,117,101]with⟨b,hb,e1,e2,e3,e4,e5⟩ |⟨b,e1,e2,e3,e4,e5⟩
 ·simp (disch:=omega) only[e1,e2,SSx C]
  exact .inl ⟨_,k+1,rfl,rfl,by omega,hb,by simp only[szs];omega,.truth (.inr rfl) (C.pos k)⟩
 simp (disch:=omega) only[e1,e2,SSx C]
 rcases kyx C hk 102 [97,108,115,101]with⟨b,hb,e1,e2,e3,e4,e5⟩ |⟨b,e1,e2,e3,e4,e5⟩
 ·simp (disch:=omega) only[e1,e2,SSx C]
  exact .inl ⟨_,k+1,rfl,rfl,by omega,hb,by simp only[szs];omega,.truth (.inl rfl) (C.pos k)⟩
 obtain⟨n1,n2,n3⟩:=nmf C hk h1
 simp (disch:=omega) only[e1,e2,n2,n3,SSx C]
 rcases kyx C hk 99 [111,110,115,117,109,101]with⟨b,hb,e1,e2,e3,e4,e5⟩ |⟨b,e1,e2,e3,e4,e5⟩
 ·simp (disch:=omega) only[e1,e2,SSx C]
  rcases nmx C hb with⟨c,hb,e1,e2,e3⟩ |⟨c,e1,e2,e3⟩
  ·simp (disch:=omega) only[e1,e2,SSx C]
   exact .inl ⟨_,k+1+1,rfl,rfl,by omega,hb,by simp only[szs];omega,.use (C.pos k)⟩
  ·simp (disch:=omega) only[e1,e2,SSx C]
   exact .inr ⟨_,k+1,-1,_,rfl,rfl,by omega,hb,Z9 l size (k+1)⟩
 simp (disch:=omega) only[e1,e2,SSx C]
 rcases sgx C hk 91 []with⟨b,hb,e1,e2,e3,e4,e5⟩ |⟨b,e1,e2,e3,e4,e5⟩
 ·simp (disch:=omega) only[e1,e2,SSx C]
  rcases sgx C hb 93 []with⟨b,hb,e1,e2,e3,e4,e5⟩ |⟨b,e1,e2,e3,e4,e5⟩
  ·simp (disch:=omega) only[e1,e2,SSx C]
   exact .inl ⟨_,k+1+1,rfl,rfl,by omega,hb,by simp only[szs];omega,.list (C.pos k) all_nil⟩
  simp (disch:=omega) only[e1,e2,SSx C]
  obtain⟨m',rfl⟩:∃q,n'=q+1:=⟨n'-1,by omega⟩
  rw[a0U.eq_2,cond_true]
  rcases H.expr (k+1) n (m'+1) (Nat.le_refl _) hb (by omega) (by omega)with⟨x,q,p1,p2,p3,p4,p5,p6⟩ |⟨x,q,pl,f,p1,p2,p3,p4,p5⟩
  ·rw[p1,p2,P6,Option.bind_some]
   simp only[app_0 144 x (by omega),Option.bind_some,Bool.not_true,cond_false]
   have hx:=x.a2t
   rcases b9X C (a:=I7 l size k) (n:=n) (n':=m'+1) hN (by omega) (by omega) H n m' q [x] (by omega) p4 (by omega) (by omega) (by simp only[szs];omega) (a5m p6)with⟨q',ys,y1,y2,y3,y4,y5,y6⟩ |⟨q',y,pl,f,y1,y2,y3,y4,y5⟩
   ·rw[y1,y2,a2n,a2n]
    rcases sgx C y4 93 []with⟨b,hb,e1,e2,e3,e4,e5⟩ |⟨b,e1,e2,e3,e4,e5⟩
    ·simp (disch:=omega) only[e2,e3,SSx C]
     exact .inl ⟨_,q'+1,rfl,rfl,by omega,hb,by simp only[szs];omega,.list (C.pos k) y6⟩
    ·simp (disch:=omega) only[e2,e3,SSx C]
     exact .inr ⟨_,q',-1,_,rfl,rfl,by omega,y4,Z9 l size q'⟩
   ·rw[y1,y2,a4i,a4i,a0t,a0t]
    exact .inr ⟨_,q',pl,f,rfl,rfl,by omega,y4,y5⟩
  ·rw[p1,p2,O8,Option.bind_some]
   exact .inr ⟨_,q,pl,f,rfl,rfl,by omega,p4,p5⟩
 simp (disch:=omega) only[e1,e2,SSx C]
 rcases sgx C hk 40 []with⟨b,hb,e1,e2,e3,e4,e5⟩ |⟨b,e1,e2,e3,e4,e5⟩
 ·simp (disch:=omega) only[e1,e2,SSx C]
  rcases H.expr (k+1) n n' (Nat.le_refl _) hb (by omega) (by omega)with⟨x,q,p1,p2,p3,p4,p5,p6⟩ |⟨x,q,pl,f,p1,p2,p3,p4,p5⟩
  ·simp (disch:=omega) only[p1,p2,SSx C]
   rcases sgx C p4 41 []with⟨b,hb,e1,e2,e3,e4,e5⟩ |⟨b,e1,e2,e3,e4,e5⟩
   ·simp (disch:=omega) only[e2,e3,SSx C]
    exact .inl ⟨x,q+1,rfl,rfl,by omega,hb,by omega,p6⟩
   ·simp (disch:=omega) only[e2,e3,SSx C]
    exact .inr ⟨_,q,-1,_,rfl,rfl,by omega,p4,Z9 l size q⟩
  ·simp (disch:=omega) only[p1,p2,SSx C]
   exact .inr ⟨_,q,pl,f,rfl,rfl,by omega,p4,p5⟩
 simp (disch:=omega) only[e1,e2,SSx C]
 rcases sgx C hk 123 []with⟨b,hb,e1,e2,e3,e4,e5⟩ |⟨b,e1,e2,e3,e4,e5⟩
 ·simp (disch:=omega) only[e4,e5,SSx C]
  rcases clos_at C (n:=n) (n':=n') hN (by omega) (by omega) b H with⟨x,q,p1,p2,p3,p4,p5,p6⟩ |⟨x,q,pl,f,p1,p2,p3,p4,p5⟩
  ·simp only[p1,p2,P6,Option.bind_some,a0t]
   exact .inl ⟨x,q,rfl,rfl,p3,p4,p5,p6⟩
  ·simp only[p1,p2,O8,Option.bind_some,a0t]
   exact .inr ⟨x,q,pl,f,rfl,rfl,p3,p4,p5⟩
 simp (disch:=omega) only[e4,e5,SSx C]
 obtain⟨n',rfl⟩:∃q,n'=q+1:=⟨n'-1,by omega⟩
 have hpa:(j5.fs (n'+1)).Y7 l size k (-1)=a2K n' (j5.fs n') l size k (-1):=rfl
 rw[hpa]
 unfold a2K
 rw[a6i C.hl hk,Option.bind_some]
 rcases base_sim C (n:=n) (n':=n') hk (by omega) (by omega)with⟨t,q0,p1,p2,p3,p4,p5⟩ |⟨t,q0,p1,p2,p3,p4⟩
 ·rw[p1 true,p2,Option.bind_some]
  simp only
  rcases c0f C (Φ:=A7.fs (n-1)) (Ψ:=j5.fs n') (n-1) n' k (I7 l size k) (n-1) n' q0 t p4 (by omega) (by omega) p5 with⟨t',q,y1,y2,y3,y4,y5,y6⟩ |⟨t',q,y1,y2,y3,y4,y5,y6,y7,y8⟩ |⟨t',q,x,y1,y2,y3,y4,y5,y6⟩ |⟨q,x,y1,y2,y3,y4⟩
  ·obtain⟨hb,e1,e2,e3,e4,e5⟩:=sgt C y2
   rw[y1,y3]
   simp (disch:=omega) only[e4,SSx C]
   rcases H.args [] q n n' (by simp) (by omega) y5 (by omega) (by omega)with⟨ys,q2,g1,g2,g3,g4,g5,g6⟩ |⟨x',y',q2,pl,f,g1,g2,g3,g4,g5⟩
   ·rw[List.nil_append]at g2
    simp (disch:=omega) only[g1,g2,SSx C]
    exact .inl ⟨_,q2,by rw[a8V],rfl,by omega,g4,by simp only[szs];omega,.make (C.pos k) g6⟩
   ·simp (disch:=omega) only[g1,g2,SSx C]
    exact .inr ⟨_,q2,pl,f,rfl,rfl,by omega,g4,g5⟩
  ·obtain⟨f1,f2,f3,f4,f5⟩:=sgf C (by omega) y2
   obtain⟨hb,e1,e2,e3,e4,e5⟩:=sgt C y3
   obtain⟨hc,g1,g2,g3⟩:=nmt C y4
   rw[y1,y5]
   simp (disch:=omega) only[f4,e3,g1,SSx C]
   rcases sgx C hc 40 []with⟨b,hb,e1,e2,e3,e4,e5⟩ |⟨b,e1,e2,e3,e4,e5⟩
   ·simp (disch:=omega) only[e4,b,SSx C]
    rcases H.args [] (q+1+1) n n' (by simp) (by omega) hc (by omega) (by omega)with⟨ys,q2,g1,g2,g3,g4,g5,g6⟩ |⟨x',y',q2,pl,f,g1,g2,g3,g4,g5⟩
    ·rw[List.nil_append]at g2
     simp (disch:=omega) only[g1,g2,SSx C]
     exact .inl ⟨_,q2,by rw[a8V],rfl,by omega,g4,by simp only[szs];omega,.stat1 (C.pos k) g6⟩
    ·simp (disch:=omega) only[g1,g2,SSx C]
     exact .inr ⟨_,q2,pl,f,rfl,rfl,by omega,g4,g5⟩
   ·simp (disch:=omega) only[e4,b,SSx C]
    exact .inl ⟨_,q+1+1,by rw[a8V],rfl,by omega,hc,by simp only[szs];omega,.stat0 (C.pos k)⟩
  ·obtain⟨f1,f2,f3,f4,f5⟩:=sgf C y6 y2
   obtain⟨e1,e2,e3,e4,e5⟩:=sgf C y6 y3
   rw[y1,y4]
   simp (disch:=omega) only[f4,e3,SSx C]
   exact .inr ⟨_,q,-1,_,rfl,rfl,by omega,y6,Z9 l size q⟩
  ·rw[y1,y2]
   simp (disch:=omega) only[SSx C]
   exact .inr ⟨_,q,-1,_,rfl,rfl,by omega,y4,Z9 l size q⟩
 ·rw[p1 true,p2,Option.bind_some]
  obtain⟨n',rfl⟩:∃q,n'=q+1:=⟨n'-1,by omega⟩
  simp (disch:=omega) only[Z8.eq_2,SSx C]
  exact .inr ⟨_,q0,-1,_,rfl,rfl,by omega,p4,Z9 l size q0⟩
theorem c7g {n n' k:Nat}(h1:isK l 1 k=true) :
  (j6.fs (n+1)).V9 l k size=some (.ok ((⟨54,N8 l k,0,zT,[],[],I7 l size k⟩:Nod),((k+1:Nat):Int))) /\
  (j5.fs (n'+1)).W9 l size k (-1)=cond (isT l 8 [40] (k+1)) (((j5.fs n').M5 ([]:List Nod) l size ((k+1:Nat):Int) (-1)).bind fun(r26,r27,at28,c1r,gone30)=>some (((⟨56,N8 l k,0,(⟨0,[],0,[]⟩:Typ),[],r26,I7 l size k⟩:Nod),r27,at28,c1r))) (some (((⟨54,N8 l k,0,(⟨0,[],0,[]⟩:Typ),[],[],I7 l size k⟩:Nod),true,((k+1:Nat):Int),-1))):=by
 have hl:=C.hl
 obtain⟨hb,g1,g2,g3⟩:=nmt C h1
 have hk:k<=l.length:=by omega
 obtain⟨a1,a2,a3,a4⟩:=kdf C (kind:=3) hk (b52 C h1 (by decide))
 obtain⟨b1,b2,b3,b4⟩:=kdf C (kind:=4) hk (b52 C h1 (by decide))
 obtain⟨c1,c2,c3,c4⟩:=kdf C (kind:=5) hk (b52 C h1 (by decide))
 obtain⟨d1,d2⟩:=kyf C hk (b52 C h1 (by decide)) 116 [114,117,101]
 obtain⟨f1,f2⟩:=kyf C hk (b52 C h1 (by decide)) 102 [97,108,115,101]
 have nx:=a9J C.hl hb size (-1) 8 [40]
 constructor
 ·show a0L n (j6.fs n) l k size=_
  unfold a0L
  simp (disch:=omega) only[a1,b1,c1,d1,f1,g1,g3,SSx C]
 ·show a0M n' (j5.fs n') l size k (-1)=_
  unfold a0M
  simp (disch:=omega) only[a3,b3,c2,d2,f2,g2,nx,SSx C]
theorem a8R {N n n' k0:Nat}(hN:24000<=N)(hn:N<=n)(hn':N<=n')(H:Hyp l size (k0+1) N):∀(m m' k:Nat) (x:Nod),k0+1<=k->k<=l.length->l.length-k<m->l.length-k+1<m'->x.sz+4*k0<=4*k->G 0 x ->
  a4h l size k0 Nod.sz (G 0) (V3 n (j6.fs n) size l m false k x) (M4 (α:=Bool×Int×Int×Nod) (V4 n' (j5.fs n') size l m' true k (-1) x) fun(c3f,b6u,a9c,n555)=>some ((n555,c3f,b6u,a9c)))
 | 0,m',k,x,h1,h2,h3,h4,h5,h6=>by omega
 | m+1,0,k,x,h1,h2,h3,h4,h5,h6=>by omega
 | m+1,1,k,x,h1,h2,h3,h4,h5,h6=>by omega
 | m+1,m'+2,k,x,h1,h2,h3,h4,h5,h6=>by
  have hl:=C.hl
  have e0:∀(q pl:Int) (y:Nod),V4 n' (j5.fs n') size l (m'+1) false q pl y=some (.brk (false,q,pl,y)):=fun _ _ _=>rfl
  have one:∀ys:List Nod,szN ys<=20000->app 144 [x] ys=some ([x]++ys):=fun ys h=>a6d (by simp) (by have:=a0Z ys;omega) (by omega)
  rw[V3.eq_2,V4.eq_2,cond_true]
  rcases sgx C h2 46 []with⟨b,hb,e1,e2,e3,e4,e5⟩ |⟨b,e1,e2,e3,e4,e5⟩
  ·rw[e1,e2]
   simp only[Option.bind_some,cond_true]
   rcases nmx C hb with⟨c,hc,e1,e2,e3⟩ |⟨c,e1,e2,e3⟩
   ·simp (disch:=omega) only[e1,e2,SSx C]
    rcases sgx C hc 40 []with⟨b,hb2,e1,e2,e3,e4,e5⟩ |⟨b,e1,e2,e3,e4,e5⟩
    ·simp only[e4,e5,Option.bind_some,cond_true]
     rcases H.args [x] (k+1+1) n n' (by simp) (by omega) hc hn hn' with⟨ys,q,g1,g2,g3,g4,g5,g6⟩ |⟨x',y',q,pl,f,g1,g2,g3,g4,g5⟩
     ·simp only[g1,g2,P6,Option.bind_some,one ys (by omega),a2n,a0s]
      exact a8R hN hn hn' H m (m'+1) q ⟨57,N8 l (k+1),0,zT,[],[x]++ys,x.at_⟩ (by omega) g4 (by omega) (by omega) (by simp only[szs];omega) (.method h6.at h6 g6)
     ·simp only[g1,g2,O8,Option.bind_some,a4i,a0t,e0,a0s]
      exact .inr ⟨_,q,pl,f,rfl,rfl,by omega,g4,g5⟩
    ·simp only[e4,e5,Option.bind_some,cond_false,a2n,a0s]
     exact a8R hN hn hn' H m (m'+1) (k+1+1) ⟨55,N8 l (k+1),0,zT,[],[x],x.at_⟩ (by omega) hc (by omega) (by omega) (by simp only[szs];omega) (.field h6.at h6)
   ·simp (disch:=omega) only[e1,e2,SSx C]
    exact .inr ⟨_,k+1,-1,_,rfl,rfl,by omega,hb,Z9 l size (k+1)⟩
  ·rw[e1,e2]
   simp only[Option.bind_some,cond_false]
   rcases sgx C h2 40 []with⟨b,hb2,e1,e2,e3,e4,e5⟩ |⟨b,e1,e2,e3,e4,e5⟩
   ·simp only[e4,e5,Option.bind_some,cond_true]
    rcases H.args [x] k n n' (by simp) (by omega) h2 hn hn' with⟨ys,q,g1,g2,g3,g4,g5,g6⟩ |⟨x',y',q,pl,f,g1,g2,g3,g4,g5⟩
    ·simp only[g1,g2,P6,Option.bind_some,one ys (by omega),a2n,a0s]
     exact a8R hN hn hn' H m (m'+1) q ⟨60,[],0,zT,[],[x]++ys,x.at_⟩ (by omega) g4 (by omega) (by omega) (by simp only[szs];omega) (.apply h6.at h6 g6)
    ·simp only[g1,g2,O8,Option.bind_some,a4i,a0t,e0,a0s]
     exact .inr ⟨_,q,pl,f,rfl,rfl,by omega,g4,g5⟩
   ·simp only[e4,e5,Option.bind_some,cond_false,a0t]
    exact .inl ⟨x,k,rfl,rfl,by omega,h2,h5,h6⟩
theorem post_at {N n n' k:Nat}(hN:24000<=N)(hn:N+3<=n)(hn':N+3<=n')(hk:k<=l.length)(H:Hyp l size (k+1) N) :
  a4h l size k Nod.sz (G 0) ((j6.fs n).U0 l k size) ((j5.fs n').U2 l size k (-1)):=by
 have hl:=C.hl
 obtain⟨n,rfl⟩:∃q,n=q+1:=⟨n-1,by omega⟩
 obtain⟨n',rfl⟩:∃q,n'=q+1:=⟨n'-1,by omega⟩
 show a4h l size k Nod.sz (G 0) (a1l n (j6.fs n) l k size) (a1t n' (j5.fs n') l size k (-1))
 unfold a1l a1t
 have e0:∀(q pl:Int) (y:Nod),V4 n' (j5.fs n') size l n' false q pl y=some (.brk (false,q,pl,y)):=by
  obtain⟨m,rfl⟩:∃q,n'=q+1:=⟨n'-1,by omega⟩
  exact fun _ _ _=>rfl
 rw[b7W C.hl hk size 1,Option.bind_some]
 cases h1:isK l 1 k
 ·rcases atom_at C (n:=n) (n':=n') hN (by omega) (by omega) hk H h1 with⟨x,q,p1,p2,p3,p4,p5,p6⟩ |⟨x,q,pl,f,p1,p2,p3,p4,p5⟩
  ·rw[p1,p2,P6,Option.bind_some]
   have hx:=x.a2t
   exact a8R C (n:=n) (n':=n') hN (by omega) (by omega) H n n' q x (by omega) p4 (by omega) (by omega) p5 p6
  ·rw[p1,p2,O8,Option.bind_some]
   simp only[e0,a0s]
   exact .inr ⟨_,q,pl,f,rfl,rfl,p3,p4,p5⟩
 ·obtain⟨n1,rfl⟩:∃q,n=q+1:=⟨n-1,by omega⟩
  obtain⟨n1',rfl⟩:∃q,n'=q+1:=⟨n'-1,by omega⟩
  obtain⟨a1,a2⟩:=c7g C (n:=n1) (n':=n1') h1
  obtain⟨hb,_⟩:=nmt C h1
  have gn:G 0 (⟨54,N8 l k,0,zT,[],[],I7 l size k⟩:Nod):=.name (C.pos k)
  rw[a1,a2,P6]
  simp only
  rcases sgx C hb 40 []with⟨b,hb2,e1,e2,e3,e4,e5⟩ |⟨b,e1,e2,e3,e4,e5⟩
  ·obtain⟨f1,f2,f3,f4,f5⟩:=sgf C hb (a7B C b (u:=[46]) (by decide))
   rw[b,cond_true,V3.eq_2,f1]
   simp only[e4,Option.bind_some,cond_false,cond_true]
   rcases H.args [] (k+1) (n1+1) n1' (by simp) (Nat.le_refl _) hb (by omega) (by omega)with⟨ys,q,g1,g2,g3,g4,g5,g6⟩ |⟨x',y',q,pl,f,g1,g2,g3,g4,g5⟩
   ·rw[List.nil_append]at g2
    simp only[g1,g2,P6,Option.bind_some,a0s]
    exact a8R C (n:=n1+1) (n':=n1'+1) hN (by omega) (by omega) H n1 (n1'+1) q ⟨56,N8 l k,0,zT,[],ys,I7 l size k⟩ (by omega) g4 (by omega) (by omega) (by simp only[szs];omega) (.call (C.pos k) g6)
   ·simp only[g1,g2,O8,Option.bind_some,a0t,e0,a0s]
    exact .inr ⟨_,q,pl,f,rfl,rfl,by omega,g4,g5⟩
  ·rw[b,cond_false,Option.bind_some]
   have hb0:∀m,V3 (n1+1) (j6.fs (n1+1)) size l m true ((k+1:Nat):Int) (⟨54,N8 l k,0,zT,[],[],I7 l size k⟩:Nod)=V3 (n1+1) (j6.fs (n1+1)) size l m false ((k+1:Nat):Int) (⟨54,N8 l k,0,zT,[],[],I7 l size k⟩:Nod):=by
    intro m
    cases m with
    | zero=>rfl
    | succ m =>
     rcases sgx C hb 46 []with⟨b,_,f1,f2,f3,f4,f5⟩ |⟨b,f1,f2,f3,f4,f5⟩<;>simp only[V3.eq_2,e4,f1,Option.bind_some,cond_false,cond_true]
   rw[hb0]
   exact a8R C (n:=n1+1) (n':=n1'+1) hN (by omega) (by omega) H (n1+1) (n1'+1) (k+1) _ (Nat.le_refl _) hb (by omega) (by omega) (by simp only[szs];omega) gn
theorem unary_at {N n n' k:Nat}(hN:24000<=N)(hn:N+4<=n)(hn':N+4<=n')(hk:k<=l.length)(H:Hyp l size (k+1) N) :
  a4h l size k Nod.sz (G 0) ((j6.fs n).I9 l k size) ((j5.fs n').K5 l size k (-1)):=by
 have hl:=C.hl
 obtain⟨n,rfl⟩:∃q,n=q+1:=⟨n-1,by omega⟩
 obtain⟨n',rfl⟩:∃q,n'=q+1:=⟨n'-1,by omega⟩
 show a4h l size k Nod.sz (G 0) (a2g n (j6.fs n) l k size) (a2k n' (j5.fs n') l size k (-1))
 unfold a2g a2k
 rcases sgx C hk 45 []with⟨b,hb,e1,e2,e3,e4,e5⟩ |⟨b,e1,e2,e3,e4,e5⟩
 ·simp (disch:=omega) only[e1,e2,SSx C]
  rcases H.unary (k+1) n n' (Nat.le_refl _) hb (by omega) (by omega)with⟨x,q,p1,p2,p3,p4,p5,p6⟩ |⟨x,q,pl,f,p1,p2,p3,p4,p5⟩
  ·simp only[p1,p2,P6,Option.bind_some]
   exact .inl ⟨_,q,rfl,rfl,by omega,p4,by simp only[szs];omega,.un (.inr rfl) (C.pos k) p6⟩
  ·simp only[p1,p2,O8,Option.bind_some]
   exact .inr ⟨_,q,pl,f,rfl,rfl,by omega,p4,p5⟩
 simp (disch:=omega) only[e1,e2,SSx C]
 rcases sgx C hk 33 []with⟨b,hb,e1,e2,e3,e4,e5⟩ |⟨b,e1,e2,e3,e4,e5⟩
 ·simp (disch:=omega) only[e1,e2,SSx C]
  rcases H.unary (k+1) n n' (Nat.le_refl _) hb (by omega) (by omega)with⟨x,q,p1,p2,p3,p4,p5,p6⟩ |⟨x,q,pl,f,p1,p2,p3,p4,p5⟩
  ·simp only[p1,p2,P6,Option.bind_some]
   exact .inl ⟨_,q,rfl,rfl,by omega,p4,by simp only[szs];omega,.un (.inl rfl) (C.pos k) p6⟩
  ·simp only[p1,p2,O8,Option.bind_some]
   exact .inr ⟨_,q,pl,f,rfl,rfl,by omega,p4,p5⟩
 simp (disch:=omega) only[e1,e2,SSx C]
 rcases post_at C (n:=n) (n':=n') hN (by omega) (by omega) hk H with⟨x,q,p1,p2,p3,p4,p5,p6⟩ |⟨x,q,pl,f,p1,p2,p3,p4,p5⟩
 ·simp only[p1,p2,P6,Option.bind_some,a0t]
  exact .inl ⟨x,q,rfl,rfl,p3,p4,p5,p6⟩
 ·simp only[p1,p2,O8,Option.bind_some,a0t]
  exact .inr ⟨x,q,pl,f,rfl,rfl,p3,p4,p5⟩
end
end Go.Proofs.YtcbjnilpecpbmaaGreatDoor
namespace Go.Proofs.YtcbjnilpecpbmaaGreatDoor
open Go Go.Vm
section
variable {l:List Tok} {size:Int} (C:Cx l size)
include C
theorem kyt {k:Nat}{a:UInt8}{r:Str}(h:isT l 9 (a::r) k=true):k+1<=l.length/\D9 (a::r) l k size=some (true,((k+1:Nat):Int))/\w9 (a::r) l size k (-1)=some (true,((k+1:Nat):Int))/\G6 (a::r) l k size=some (.ok ((k+1:Nat):Int))/\u6 0 9 (a::r) l k size=some true/\C8 9 (a::r) l size k (-1)=some true:=by
 rcases kyx C (Nat.le_of_lt (a2b h)) a r with⟨_,h⟩ |⟨h2,_⟩
 ·exact h
 ·rw[h]at h2;cases h2
theorem kyn {k:Nat}{a:UInt8}{r:Str}(hk:k<=l.length)(h:isT l 9 (a::r) k=false):D9 (a::r) l k size=some (false,(k:Int))/\w9 (a::r) l size k (-1)=some (false,(k:Int))/\G6 (a::r) l k size=some (.pan (I7 l size k,(k:Int)))/\u6 0 9 (a::r) l k size=some false/\C8 9 (a::r) l size k (-1)=some false:=by
 rcases kyx C hk a r with⟨h2,_⟩ |⟨_,h⟩
 ·rw[h]at h2;cases h2
 ·exact h
theorem c22 {N n n' k:Nat} (hN:24000 <= N) (hn:N + 1 <= n) (hn':N + 1 <= n') (hk:k <= l.length) (H:Hyp l size (k + 1) N) (hw:isT l 9 [108,101,116] k = true ∨ isT l 9 [118,97,114] k = true) :
    a4h l size k Nod.sz (G 1) ((j6.fs n).X5 l k size) ((j5.fs n').X7 l size k (-1)):=by
  have hl:=C.hl
  obtain⟨n,rfl⟩:∃q,n=q+1:=⟨n-1,by omega⟩
  obtain⟨n',rfl⟩:∃q,n'=q+1:=⟨n'-1,by omega⟩
  show a4h l size k Nod.sz (G 1) (a2e n (j6.fs n) l k size) (a2i n' (j5.fs n') l size k (-1))
  unfold a2e a2i
  obtain ⟨nn,hb,hnn,m1,m2⟩:∃ nn:Int,k + 1 <= l.length /\ (nn = 0 ∨ nn = 1) /\ ((D9 [118,97,114] l k size).bind fun (r5,at6) =>
      cond r5 (
      some (.brk (at6,1))) (
      A8 (G6 [108,101,116] l at6 size) (fun at7 =>
      some (.brk (at7,0))) fun(at8,at9) =>
      some (.out (.pan ((⟨(⟨20,at8⟩:Flt)⟩:o7),at9)))))=some (Lr.brk (α:=Int×Int) (ρ:=Rs (Nod×Int) (o7×Int)) (((k+1:Nat):Int),nn))/\((w9 [118,97,114] l size k (-1)).bind fun(r6,at7) =>
      cond r6 (
      some (at7,(1:Int))) (
      (w9 [108,101,116] l size at7 (-1)).bind fun(r8,at9) =>
      some (at9,(0:Int))))=some ((((k+1:Nat):Int),nn):Int×Int):=by
    rcases kyx C hk 118 [97,114]with⟨b,hb,e1,e2,e3,e4,e5⟩ |⟨b,e1,e2,e3,e4,e5⟩
    · rw[e1,e2];exact⟨1,hb,.inr rfl,rfl,rfl⟩
    · have hw:isT l 9 [108,101,116] k = true:=by
        rcases hw with h|h
        · exact h
        · rw[h]at b;cases b
      obtain⟨hb,f1,f2,f3,f4,f5⟩:=kyt C hw
      rw[e1,e2]
      simp only[Option.bind_some,cond_false]
      rw[f2,f3];exact⟨0,hb,.inl rfl,rfl,rfl⟩
  rw[a9K C hk,a6i C.hl hk,Option.bind_some,Option.bind_some,m1,m2,a0s,Option.bind_some]
  rcases nmx C hb with⟨c,hc,e1,e2,e3⟩ |⟨c,e1,e2,e3⟩
  case inr =>
    simp (disch:=omega) only[e1,e2,SSx C]
    exact .inr ⟨_,k+1,-1,_,rfl,rfl,by omega,hb,Z9 l size (k+1)⟩
  have v1:eqB 1 1=true:=a3V rfl
  have v2:eqB 0 1=false:=a6z (by decide)
  have v3:eqB 1 0=false:=a6z (by decide)
  have v4:eqB 0 0=true:=a3V rfl
  simp (disch:=omega) only[e1,e2,SSx C]
  rcases sgx C hc 58 []with⟨b,hd,e1,e2,e3,e4,e5⟩ |⟨b,e1,e2,e3,e4,e5⟩
  · simp (disch:=omega) only[e1,e2,SSx C]
    rcases typ4 C (n:=n) (n':=n') hd (by omega) (by omega)with⟨t,r,p1,p2,p3,p4,p5⟩ |⟨t,r,p1,p2,p3,p4⟩
    case inr =>
      simp (disch:=omega) only[p1,p2,SSx C]
      exact .inr ⟨_,r,-1,_,rfl,rfl,by omega,p4,Z9 l size r⟩
    simp (disch:=omega) only[p1,p2,SSx C]
    rcases hnn with rfl|rfl
    · simp (disch:=omega) only[v2,SSx C]
      rcases sgx C p4 61 []with⟨b,hs,e1,e2,e3,e4,e5⟩ |⟨b,e1,e2,e3,e4,e5⟩
      · simp (disch:=omega) only[e2,e3,SSx C]
        rcases H.expr (r+1) n n' (by omega) hs (by omega) (by omega)with⟨x,q,s1,s2,s3,s4,s5,s6⟩ |⟨x,q,pl,f,s1,s2,s3,s4,s5⟩
        · simp (disch:=omega) only[s1,s2,SSx C]
          rcases sgx C s4 59 []with⟨b,hs,e1,e2,e3,e4,e5⟩ |⟨b,e1,e2,e3,e4,e5⟩
          · simp (disch:=omega) only[e2,e3,SSx C]
            exact .inl ⟨⟨21,N8 l (k+1),0,t,[],[x],I7 l size k⟩,q+1,by rw[a8V],by rw[a8V],by omega,hs,by simp only[nsz,tsz,a9X,a9W,a9s,a8V];omega,.let1 (C.pos k) (.inl rfl) s6⟩
          · simp (disch:=omega) only[e2,e3,SSx C]
            exact .inr ⟨_,q,-1,_,rfl,rfl,by omega,s4,Z9 l size q⟩
        · simp (disch:=omega) only[s1,s2,SSx C]
          exact .inr ⟨_,q,pl,f,rfl,rfl,by omega,s4,s5⟩
      · simp (disch:=omega) only[e2,e3,v4,SSx C]
        exact .inr ⟨_,r,-1,_,rfl,rfl,by omega,p4,Z9 l size (r)⟩
    · simp (disch:=omega) only[v1,SSx C]
      rcases sgx C p4 59 []with⟨b,hs,e1,e2,e3,e4,e5⟩ |⟨b,e1,e2,e3,e4,e5⟩
      · obtain⟨f1,f2,f3,f4,f5⟩:=sgf C p4 (a7B C b (u:=[61]) (by decide))
        simp (disch:=omega) only[e1,e2,f2,v3,SSx C]
        exact .inl ⟨_,r+1,by rw[a8V],rfl,by omega,hs,by simp only[nsz,tsz,a9X,a9W,a8V];omega,.let0 (C.pos k)⟩
      · simp (disch:=omega) only[e1,SSx C]
        have g2:=e2
        rcases sgx C p4 61 []with⟨b,hs,e1,e2,e3,e4,e5⟩ |⟨b,e1,e2,e3,e4,e5⟩
        · simp (disch:=omega) only[e2,e3,SSx C]
          rcases H.expr (r+1) n n' (by omega) hs (by omega) (by omega)with⟨x,q,s1,s2,s3,s4,s5,s6⟩ |⟨x,q,pl,f,s1,s2,s3,s4,s5⟩
          · simp (disch:=omega) only[s1,s2,SSx C]
            rcases sgx C s4 59 []with⟨b,hs,e1,e2,e3,e4,e5⟩ |⟨b,e1,e2,e3,e4,e5⟩
            · simp (disch:=omega) only[e2,e3,SSx C]
              exact .inl ⟨⟨21,N8 l (k+1),1,t,[],[x],I7 l size k⟩,q+1,by rw[a8V],by rw[a8V],by omega,hs,by simp only[nsz,tsz,a9X,a9W,a9s,a8V];omega,.let1 (C.pos k) (.inr rfl) s6⟩
            · simp (disch:=omega) only[e2,e3,SSx C]
              exact .inr ⟨_,q,-1,_,rfl,rfl,by omega,s4,Z9 l size q⟩
          · simp (disch:=omega) only[s1,s2,SSx C]
            exact .inr ⟨_,q,pl,f,rfl,rfl,by omega,s4,s5⟩
        · simp (disch:=omega) only[e2,e3,g2,v3,SSx C]
          exact .inr ⟨_,r,-1,_,rfl,rfl,by omega,p4,Z9 l size (r)⟩
  · simp (disch:=omega) only[e1,e2,SSx C]
    rcases hnn with rfl|rfl
    · simp (disch:=omega) only[v2,SSx C]
      rcases sgx C hc 61 []with⟨b,hs,e1,e2,e3,e4,e5⟩ |⟨b,e1,e2,e3,e4,e5⟩
      · simp (disch:=omega) only[e2,e3,SSx C]
        rcases H.expr (k+1+1+1) n n' (by omega) hs (by omega) (by omega)with⟨x,q,s1,s2,s3,s4,s5,s6⟩ |⟨x,q,pl,f,s1,s2,s3,s4,s5⟩
        · simp (disch:=omega) only[s1,s2,SSx C]
          rcases sgx C s4 59 []with⟨b,hs,e1,e2,e3,e4,e5⟩ |⟨b,e1,e2,e3,e4,e5⟩
          · simp (disch:=omega) only[e2,e3,SSx C]
            exact .inl ⟨⟨21,N8 l (k+1),0,zT,[],[x],I7 l size k⟩,q+1,rfl,rfl,by omega,hs,by simp only[nsz,tsz,a9X,a9W,a9s,a8V];omega,.let1 (C.pos k) (.inl rfl) s6⟩
          · simp (disch:=omega) only[e2,e3,SSx C]
            exact .inr ⟨_,q,-1,_,rfl,rfl,by omega,s4,Z9 l size q⟩
        · simp (disch:=omega) only[s1,s2,SSx C]
          exact .inr ⟨_,q,pl,f,rfl,rfl,by omega,s4,s5⟩
      · simp (disch:=omega) only[e2,e3,v4,SSx C]
        exact .inr ⟨_,k+1+1,-1,_,rfl,rfl,by omega,hc,Z9 l size (k+1+1)⟩
    · simp (disch:=omega) only[v1,SSx C]
      rcases sgx C hc 61 []with⟨b,hs,e1,e2,e3,e4,e5⟩ |⟨b,e1,e2,e3,e4,e5⟩
      · simp (disch:=omega) only[e2,e3,SSx C]
        rcases H.expr (k+1+1+1) n n' (by omega) hs (by omega) (by omega)with⟨x,q,s1,s2,s3,s4,s5,s6⟩ |⟨x,q,pl,f,s1,s2,s3,s4,s5⟩
        · simp (disch:=omega) only[s1,s2,SSx C]
          rcases sgx C s4 59 []with⟨b,hs,e1,e2,e3,e4,e5⟩ |⟨b,e1,e2,e3,e4,e5⟩
          · simp (disch:=omega) only[e2,e3,SSx C]
            exact .inl ⟨⟨21,N8 l (k+1),1,zT,[],[x],I7 l size k⟩,q+1,rfl,rfl,by omega,hs,by simp only[nsz,tsz,a9X,a9W,a9s,a8V];omega,.let1 (C.pos k) (.inr rfl) s6⟩
          · simp (disch:=omega) only[e2,e3,SSx C]
            exact .inr ⟨_,q,-1,_,rfl,rfl,by omega,s4,Z9 l size q⟩
        · simp (disch:=omega) only[s1,s2,SSx C]
          exact .inr ⟨_,q,pl,f,rfl,rfl,by omega,s4,s5⟩
      · simp (disch:=omega) only[e2,e3,v3,SSx C]
        exact .inr ⟨_,k+1+1,-1,_,rfl,rfl,by omega,hc,Z9 l size (k+1+1)⟩
theorem block_at {N n n' k:Nat}(hN:24000<=N)(hn:N+1<=n)(hn':N+1<=n')(hk:k<=l.length)(H:Hyp l size (k+1) N) :
  a4h l size k Nod.sz (G 2) ((j6.fs n).I8 l k size) ((j5.fs n').I6 l size k (-1)):=by
 have hl:=C.hl
 obtain⟨n,rfl⟩:∃q,n=q+1:=⟨n-1,by omega⟩
 obtain⟨n',rfl⟩:∃q,n'=q+1:=⟨n'-1,by omega⟩
 show a4h l size k Nod.sz (G 2) (a2d n (j6.fs n) l k size) (a2h n' (j5.fs n') l size k (-1))
 unfold a2d a2h
 rcases sgx C hk 123 []with⟨b,hb,e1,e2,e3,e4,e5⟩ |⟨b,e1,e2,e3,e4,e5⟩
 ·simp (disch:=omega) only[e2,e3,SSx C]
  rcases H.stmts (k+1) n n' (Nat.le_refl _) hb (by omega) (by omega)with⟨x,q,p1,p2,p3,p4,p5,p6⟩ |⟨x,q,pl,f,p1,p2,p3,p4,p5⟩
  ·have p5:szN x+4+4*(k+1)<=4*q:=p5
   simp (disch:=omega) only[p1,p2,SSx C]
   exact .inl ⟨_,q,rfl,rfl,by omega,p4,by simp only[szs];omega,.block (C.pos k) p6⟩
  ·simp (disch:=omega) only[p1,p2,SSx C]
   exact .inr ⟨_,q,pl,f,rfl,rfl,by omega,p4,p5⟩
 ·simp (disch:=omega) only[e2,e3,SSx C]
  exact .inr ⟨_,k,-1,_,rfl,rfl,Nat.le_refl _,hk,Z9 l size k⟩
theorem if_at {N n n' k:Nat}(hN:24000<=N)(hn:N+1<=n)(hn':N+1<=n')(hk:k<=l.length)(H:Hyp l size (k+1) N)(hw:isT l 9 [105,102] k=true) :
  a4h l size k Nod.sz (fun x=>G 1 x/\x.op=24) ((j6.fs n).L9 l k size) ((j5.fs n').M0 l size k (-1)):=by
 have hl:=C.hl
 obtain⟨n,rfl⟩:∃q,n=q+1:=⟨n-1,by omega⟩
 obtain⟨n',rfl⟩:∃q,n'=q+1:=⟨n'-1,by omega⟩
 show a4h l size k Nod.sz (fun x=>G 1 x/\x.op=24) (a0w n (j6.fs n) l k size) (a0y n' (j5.fs n') l size k (-1))
 unfold a0w a0y
 obtain⟨hb,e1,e2,e3,e4,e5⟩:=kyt C hw
 simp (disch:=omega) only[e2,e3,SSx C]
 rcases H.expr (k+1) n n' (Nat.le_refl _) hb (by omega) (by omega)with⟨x,q,p1,p2,p3,p4,p5,p6⟩ |⟨x,q,pl,f,p1,p2,p3,p4,p5⟩
 case inr =>
  simp (disch:=omega) only[p1,p2,SSx C]
  exact .inr ⟨_,q,pl,f,rfl,rfl,by omega,p4,p5⟩
 have hx:=x.a2t
 simp (disch:=omega) only[p1,p2,SSx C]
 rcases H.block q n n' (by omega) p4 (by omega) (by omega)with⟨y,q2,r1,r2,r3,r4,r5,r6⟩ |⟨y,q2,pl,f,r1,r2,r3,r4,r5⟩
 case inr =>
  simp (disch:=omega) only[r1,r2,SSx C]
  exact .inr ⟨_,q2,pl,f,rfl,rfl,by omega,r4,r5⟩
 have hy:=y.a2t
 simp (disch:=omega) only[r1,r2,b9r x y (show 144<=1000 by omega),SSx C]
 rcases kyx C r4 101 [108,115,101]with⟨b,hb,e1,e2,e3,e4,e5⟩ |⟨b,e1,e2,e3,e4,e5⟩
 ·simp (disch:=omega) only[e1,e2,SSx C]
  rcases kyx C hb 105 [102]with⟨b,hb2,e1,e2,e3,e4,e5⟩ |⟨b,e1,e2,e3,e4,e5⟩
  ·simp (disch:=omega) only[e4,e5,SSx C]
   rcases H.iff (q2+1) n n' b (by omega) hb (by omega) (by omega)with⟨z,q3,s1,s2,s3,s4,s5,s6⟩ |⟨z,q3,pl,f,s1,s2,s3,s4,s5⟩
   ·simp (disch:=omega) only[s1,s2,app_2 x y z (show 144<=1000 by omega),SSx C]
    exact .inl ⟨_,q3,rfl,rfl,by omega,s4,by simp only[szs];omega,.if4 (C.pos k) p6 r6 s6.1 s6.2,rfl⟩
   ·simp (disch:=omega) only[s1,s2,SSx C]
    exact .inr ⟨_,q3,pl,f,rfl,rfl,by omega,s4,s5⟩
  ·simp (disch:=omega) only[e4,e5,SSx C]
   rcases H.block (q2+1) n n' (by omega) hb (by omega) (by omega)with⟨z,q3,s1,s2,s3,s4,s5,s6⟩ |⟨z,q3,pl,f,s1,s2,s3,s4,s5⟩
   ·simp (disch:=omega) only[s1,s2,app_2 x y z (show 144<=1000 by omega),SSx C]
    exact .inl ⟨_,q3,rfl,rfl,by omega,s4,by simp only[szs];omega,.if3 (C.pos k) p6 r6 s6,rfl⟩
   ·simp (disch:=omega) only[s1,s2,SSx C]
    exact .inr ⟨_,q3,pl,f,rfl,rfl,by omega,s4,s5⟩
 ·simp (disch:=omega) only[e1,e2,SSx C]
  exact .inl ⟨_,q2,rfl,rfl,by omega,r4,by simp only[szs];omega,.if2 (C.pos k) p6 r6,rfl⟩
theorem b77 {N n n' k0:Nat}{x0:Nod}(hN:24000<=N)(hn:N<=n)(hn':N<=n')(H:Hyp l size (k0+1) N):∀(m m' k:Nat) (xs:List Nod),k0<=k->k<=l.length->l.length-k<m->l.length-k<m'->szN xs+4*k0<=4*k ->(∀x∈xs,G 5 x) ->
  (∃(q:Nat) (ys:List Nod),a1J n (j6.fs n) size l m k (x0::xs)=some (.brk ((q:Int),x0::ys))/\a1N n' (j5.fs n') size l m' (x0::xs) k (-1)=some (.brk (x0::ys,(q:Int),-1))/\k<=q/\q<=l.length/\szN ys+4*k0<=4*q /\ ∀x∈ys,G 5 x) ∨
  (∃(q:Nat) (y:List Nod) (pl:Int) (f:o7),a1J n (j6.fs n) size l m k (x0::xs)=some (.out (.pan (f,(q:Int))))/\a1N n' (j5.fs n') size l m' (x0::xs) k (-1)=some (.out (y,false,(q:Int),pl))/\k<=q/\q<=l.length/\a2m l size q pl f)
 | 0,m',k,xs,h1,h2,h3,h4,h5,h6=>by omega
 | m+1,0,k,xs,h1,h2,h3,h4,h5,h6=>by omega
 | m+1,m'+1,k,xs,h1,h2,h3,h4,h5,h6=>by
  have hl:=C.hl
  have hlen:=a0Z xs
  rw[a1J.eq_2,a1N.eq_2]
  rcases kyx C h2 99 [97,115,101]with⟨b,hb,e1,e2,e3,e4,e5⟩ |⟨b,e1,e2,e3,e4,e5⟩
  ·simp (disch:=omega) only[e4,e5,e2,SSx C]
   rcases pat_sim C (n:=n) (n':=n') hb (by omega) (by omega)with⟨x,q,p1,p2,p3,p4,p5,p6⟩ |⟨x,q,p1,p2,p3,p4⟩
   case inr =>
    simp (disch:=omega) only[p1,p2,SSx C]
    exact .inr ⟨q,_,-1,_,rfl,rfl,by omega,p4,Z9 l size q⟩
   have hx:=x.a2t
   simp (disch:=omega) only[p1,p2,SSx C]
   rcases H.block q n n' (by omega) p4 (by omega) (by omega)with⟨y,q2,r1,r2,r3,r4,r5,r6⟩ |⟨y,q2,pl,f,r1,r2,r3,r4,r5⟩
   case inr =>
    simp (disch:=omega) only[r1,r2,SSx C]
    exact .inr ⟨q2,_,pl,f,rfl,rfl,by omega,r4,r5⟩
   have hy:=y.a2t
   have a1:app 144 (x0::xs) [(⟨27,[],0,zT,[],[x,y],I7 l size k⟩:Nod)]=some (x0 ::(xs++[(⟨27,[],0,zT,[],[x,y],I7 l size k⟩:Nod)])):=a6d (l:=x0::xs) (by simp only[List.length_cons];omega) (by simp) (by omega)
   simp (disch:=omega) only[r1,r2,b9r x y (show 144<=1000 by omega),a1,SSx C]
   rcases b77 hN hn hn' H m m' q2 (xs++[(⟨27,[],0,zT,[],[x,y],I7 l size k⟩:Nod)]) (by omega) r4 (by omega) (by omega) (by simp only[szs];omega) (a6y h6 (a5m (.arm (C.pos k) p6 r6)))with⟨q',ys,y1,y2,y3,y4,y5,y6⟩ |⟨q',y,pl,f,y1,y2,y3,y4,y5⟩
   ·exact .inl ⟨q',ys,y1,y2,by omega,y4,y5,y6⟩
   ·exact .inr ⟨q',y,pl,f,y1,y2,by omega,y4,y5⟩
  ·simp (disch:=omega) only[e4,e5,SSx C]
   exact .inl ⟨k,xs,rfl,rfl,Nat.le_refl _,h2,h5,h6⟩
theorem match_at {N n n' k:Nat}(hN:24000<=N)(hn:N+1<=n)(hn':N+1<=n')(hk:k<=l.length)(H:Hyp l size (k+1) N)(hw:isT l 9 [109,97,116,99,104] k=true) :
  a4h l size k Nod.sz (G 1) ((j6.fs n).X6 l k size) (((j5.fs n').X8 (I7 l size k) l size ((k+1:Nat):Int) (-1)).bind fun(l29,r30,at31,b1F)=>some (((⟨26,[],0,(⟨0,[],0,[]⟩:Typ),[],l29,I7 l size k⟩:Nod),r30,at31,b1F))):=by
 have hl:=C.hl
 obtain⟨n,rfl⟩:∃q,n=q+1:=⟨n-1,by omega⟩
 obtain⟨n',rfl⟩:∃q,n'=q+1:=⟨n'-1,by omega⟩
 show a4h l size k Nod.sz (G 1) (a2f n (j6.fs n) l k size) ((a2j n' (j5.fs n') (I7 l size k) l size ((k+1:Nat):Int) (-1)).bind fun(l29,r30,at31,b1F)=>some (((⟨26,[],0,(⟨0,[],0,[]⟩:Typ),[],l29,I7 l size k⟩:Nod),r30,at31,b1F)))
 unfold a2f a2j
 obtain⟨hb,e1,e2,e3,e4,e5⟩:=kyt C hw
 simp (disch:=omega) only[e3,SSx C]
 rcases H.expr (k+1) n n' (Nat.le_refl _) hb (by omega) (by omega)with⟨x,q,p1,p2,p3,p4,p5,p6⟩ |⟨x,q,pl,f,p1,p2,p3,p4,p5⟩
 case inr =>
  simp (disch:=omega) only[p1,p2,SSx C]
  exact .inr ⟨_,q,pl,f,rfl,rfl,by omega,p4,p5⟩
 have hx:=x.a2t
 simp (disch:=omega) only[p1,p2,SSx C]
 rcases sgx C p4 123 []with⟨b,hb2,e1,e2,e3,e4,e5⟩ |⟨b,e1,e2,e3,e4,e5⟩
 case inr =>
  simp (disch:=omega) only[e2,e3,SSx C]
  exact .inr ⟨_,q,-1,_,rfl,rfl,by omega,p4,Z9 l size q⟩
 simp (disch:=omega) only[e2,e3,SSx C]
 rcases b77 C (n:=n) (n':=n') (k0:=q) (x0:=x) hN (by omega) (by omega) ⟨fun k n n' h=>H.expr k n n' (by omega),fun k n n' h=>H.unary k n n' (by omega),fun j k n n' hj h=>H.lev j k n n' hj (by omega),fun m0 k n n' hm h=>H.args m0 k n n' hm (by omega),fun k n n' h=>H.stmts k n n' (by omega),fun k n n' h=>H.stmt k n n' (by omega),fun k n n' h=>H.block k n n' (by omega),fun k n n' hi h=>H.iff k n n' hi (by omega)⟩ n n' (q+1) [] (by omega) hb2 (by omega) (by omega) (by simp only[szs];omega) all_nil with⟨q',ys,y1,y2,y3,y4,y5,y6⟩ |⟨q',y,pl,f,y1,y2,y3,y4,y5⟩
 case inr =>
  simp (disch:=omega) only[y1,y2,SSx C]
  exact .inr ⟨_,q',pl,f,rfl,rfl,by omega,y4,y5⟩
 have hyl:=a0Z ys
 simp (disch:=omega) only[y1,y2,SSx C]
 rcases kyx C y4 100 [101,102,97,117,108,116]with⟨b,hb,e1,e2,e3,e4,e5⟩ |⟨b,e1,e2,e3,e4,e5⟩
 ·simp (disch:=omega) only[e1,e2,e5,SSx C]
  rcases H.block (q'+1) n n' (by omega) hb (by omega) (by omega)with⟨z,q3,s1,s2,s3,s4,s5,s6⟩ |⟨z,q3,pl,f,s1,s2,s3,s4,s5⟩
  case inr =>
   simp (disch:=omega) only[s1,s2,SSx C]
   exact .inr ⟨_,q3,pl,f,rfl,rfl,by omega,s4,s5⟩
  have a1:∀w:Nod,app 144 (x::ys) [w]=some (x ::(ys++[w])):=fun w=>a6d (l:=x::ys) (by simp only[List.length_cons];omega) (by simp) (by omega)
  simp (disch:=omega) only[s1,s2,b9r _ z (show 144<=1000 by omega),a1,SSx C]
  rcases sgx C s4 125 []with⟨b,hb2,e1,e2,e3,e4,e5⟩ |⟨b,e1,e2,e3,e4,e5⟩
  ·simp (disch:=omega) only[e2,e3,SSx C]
   exact .inl ⟨_,q3+1,rfl,rfl,by omega,hb2,by simp only[szs];omega,.mat (C.pos k) p6 (a6y y6 (a5m (.arm (C.pos q') (.wild (C.pos q')) s6)))⟩
  ·simp (disch:=omega) only[e2,e3,SSx C]
   exact .inr ⟨_,q3,-1,_,rfl,rfl,by omega,s4,Z9 l size q3⟩
 ·simp (disch:=omega) only[e1,e2,e5,SSx C]
  rcases sgx C y4 125 []with⟨b,hb2,e1,e2,e3,e4,e5⟩ |⟨b,e1,e2,e3,e4,e5⟩
  ·simp (disch:=omega) only[e2,e3,SSx C]
   exact .inl ⟨_,q'+1,rfl,rfl,by omega,hb2,by simp only[szs];omega,.mat (C.pos k) p6 y6⟩
  ·simp (disch:=omega) only[e2,e3,SSx C]
   exact .inr ⟨_,q',-1,_,rfl,rfl,by omega,y4,Z9 l size q'⟩
theorem kyv {k:Nat}(hk:k<=l.length)(a:UInt8)(r:Str):w9 (a::r) l size k (-1)=some (isT l 9 (a::r) k,((cond (isT l 9 (a::r) k) (k+1) k:Nat):Int)):=by
 rcases kyx C hk a r with⟨b,_,_,e,_⟩ |⟨b,_,e,_⟩<;>rw[e,b]<;>rfl
theorem nxv {k:Nat}(hk:k<=l.length)(a:UInt8)(r:Str):C8 9 (a::r) l size k (-1)=some (isT l 9 (a::r) k):=a9J C.hl hk size (-1) 9 (a::r)
omit C in
theorem wq:eqS [108,101,116] [108,101,116]=true/\eqS [108,101,116] [118,97,114]=false/\eqS [108,101,116] [105,102]=false/\eqS [108,101,116] [109,97,116,99,104]=false/\eqS [108,101,116] [100,101,102,101,114]=false/\eqS [108,101,116] [119,104,105,108,101]=false/\eqS [108,101,116] [114,101,116,117,114,110]=false/\eqS [108,101,116] [116,104,114,111,119]=false/\eqS [108,101,116] [100,111]=false/\eqS [118,97,114] [108,101,116]=false/\eqS [118,97,114] [118,97,114]=true/\eqS [118,97,114] [105,102]=false/\eqS [118,97,114] [109,97,116,99,104]=false/\eqS [118,97,114] [100,101,102,101,114]=false/\eqS [118,97,114] [119,104,105,108,101]=false/\eqS [118,97,114] [114,101,116,117,114,110]=false/\eqS [118,97,114] [116,104,114,111,119]=false/\eqS [118,97,114] [100,111]=false/\eqS [105,102] [108,101,116]=false/\eqS [105,102] [118,97,114]=false/\eqS [105,102] [105,102]=true/\eqS [105,102] [109,97,116,99,104]=false/\eqS [105,102] [100,101,102,101,114]=false/\eqS [105,102] [119,104,105,108,101]=false/\eqS [105,102] [114,101,116,117,114,110]=false/\eqS [105,102] [116,104,114,111,119]=false/\eqS [105,102] [100,111]=false/\eqS [109,97,116,99,104] [108,101,116]=false/\eqS [109,97,116,99,104] [118,97,114]=false/\eqS [109,97,116,99,104] [105,102]=false/\eqS [109,97,116,99,104] [109,97,116,99,104]=true/\eqS [109,97,116,99,104] [100,101,102,101,114]=false/\eqS [109,97,116,99,104] [119,104,105,108,101]=false/\eqS [109,97,116,99,104] [114,101,116,117,114,110]=false/\eqS [109,97,116,99,104] [116,104,114,111,119]=false/\eqS [109,97,116,99,104] [100,111]=false/\eqS [100,101,102,101,114] [108,101,116]=false/\eqS [100,101,102,101,114] [118,97,114]=false/\eqS [100,101,102,101,114] [105,102]=false/\eqS [100,101,102,101,114] [109,97,116,99,104]=false/\eqS [100,101,102,101,114] [100,101,102,101,114]=true/\eqS [100,101,102,101,114] [119,104,105,108,101]=false/\eqS [100,101,102,101,114] [114,101,116,117,114,110]=false/\eqS [100,101,102,101,114] [116,104,114,111,119]=false/\eqS [100,101,102,101,114] [100,111]=false/\eqS [119,104,105,108,101] [108,101,116]=false/\eqS [119,104,105,108,101] [118,97,114]=false/\eqS [119,104,105,108,101] [105,102]=false/\eqS [119,104,105,108,101] [109,97,116,99,104]=false/\eqS [119,104,105,108,101] [100,101,102,101,114]=false/\eqS [119,104,105,108,101] [119,104,105,108,101]=true/\eqS [119,104,105,108,101] [114,101,116,117,114,110]=false/\eqS [119,104,105,108,101] [116,104,114,111,119]=false/\eqS [119,104,105,108,101] [100,111]=false/\eqS [114,101,116,117,114,110] [108,101,116]=false/\eqS [114,101,116,117,114,110] [118,97,114]=false/\eqS [114,101,116,117,114,110] [105,102]=false/\eqS [114,101,116,117,114,110] [109,97,116,99,104]=false/\eqS [114,101,116,117,114,110] [100,101,102,101,114]=false/\eqS [114,101,116,117,114,110] [119,104,105,108,101]=false/\eqS [114,101,116,117,114,110] [114,101,116,117,114,110]=true/\eqS [114,101,116,117,114,110] [116,104,114,111,119]=false/\eqS [114,101,116,117,114,110] [100,111]=false/\eqS [116,104,114,111,119] [108,101,116]=false/\eqS [116,104,114,111,119] [118,97,114]=false/\eqS [116,104,114,111,119] [105,102]=false/\eqS [116,104,114,111,119] [109,97,116,99,104]=false/\eqS [116,104,114,111,119] [100,101,102,101,114]=false/\eqS [116,104,114,111,119] [119,104,105,108,101]=false/\eqS [116,104,114,111,119] [114,101,116,117,114,110]=false/\eqS [116,104,114,111,119] [116,104,114,111,119]=true/\eqS [116,104,114,111,119] [100,111]=false/\eqS [100,111] [108,101,116]=false/\eqS [100,111] [118,97,114]=false/\eqS [100,111] [105,102]=false/\eqS [100,111] [109,97,116,99,104]=false/\eqS [100,111] [100,101,102,101,114]=false/\eqS [100,111] [119,104,105,108,101]=false/\eqS [100,111] [114,101,116,117,114,110]=false/\eqS [100,111] [116,104,114,111,119]=false/\eqS [100,111] [100,111]=true:=by simp[eqS]
theorem stmt_at {N n n' k:Nat} (hN:24000 <= N) (hn:N + 17 <= n) (hn':N + 17 <= n') (hk:k <= l.length) (H:Hyp l size (k + 1) N) (E:∀ n n',N + 15 <= n -> N + 15 <= n' -> a4h l size k Nod.sz (G 0) ((j6.fs n).G8 l k size) ((j5.fs n').H8 l size k (-1))) :
    a4h l size k Nod.sz (G 1) ((j6.fs n).K7 l k size) ((j5.fs n').K8 l size k (-1)):=by
  have hl:=C.hl
  obtain⟨n,rfl⟩:∃q,n=q+1:=⟨n-1,by omega⟩
  obtain⟨n',rfl⟩:∃q,n'=q+1:=⟨n'-1,by omega⟩
  show a4h l size k Nod.sz (G 1) (J4 n (j6.fs n) l k size) (J5 n' (j5.fs n') l size k (-1))
  have word:∀ b,isK l 9 k = b -> ((u6 0 9 [] l k size).bind fun r4 =>
      cond r4 (
      (idx' l (k:Int)).bind fun x5 =>
      some x5.text) (
      some []))=some (cond b (N8 l k) []):=by
    intro b hb
    rw[b7W C.hl hk size 9,hb]
    cases b
    · rfl
    · obtain⟨_,t,t0,t1,_⟩:=kdt C hb
      simp only[Option.bind_some,cond_true,t0,t1]
  have fw:∀w,isT l 9 w k =(isK l 9 k&&eqS (N8 l k) w):=fun w=>b6F C 9 w k
  have dflt:∀ u:Str,isT l 9 [108,101,116] k = false -> isT l 9 [118,97,114] k = false -> isT l 9 [105,102] k = false -> isT l 9 [109,97,116,99,104] k = false -> isT l 9 [100,101,102,101,114] k = false -> isT l 9 [119,104,105,108,101] k = false -> isT l 9 [114,101,116,117,114,110] k = false -> isT l 9 [116,104,114,111,119] k = false -> isT l 9 [100,111] k = false -> eqS u [108,101,116] = false -> eqS u [118,97,114] = false -> eqS u [105,102] = false -> eqS u [109,97,116,99,104] = false -> eqS u [100,101,102,101,114] = false -> eqS u [119,104,105,108,101] = false -> eqS u [114,101,116,117,114,110] = false -> eqS u [116,104,114,111,119] = false -> eqS u [100,111] = false -> ((u6 0 9 [] l k size).bind fun r4 =>
      cond r4 (
      (idx' l (k:Int)).bind fun x5 =>
      some x5.text) (
      some []))=some u->a4h l size k Nod.sz (G 1) (J4 n (j6.fs n) l k size) (J5 n' (j5.fs n') l size k (-1)):=by
    intro u f0 f1 f2 f3 f4 f5 f6 f7 f8 g0 g1 g2 g3 g4 g5 g6 g7 g8 hu
    unfold J4 J5
    rw[hu]
    simp (disch:=omega) only[kyv C hk,nxv C hk,f0,f1,f2,f3,f4,f5,f6,f7,f8,g0,g1,g2,g3,g4,g5,g6,g7,g8,SSx C]
    obtain⟨n1,rfl⟩:∃q,n'=q+1:=⟨n'-1,by omega⟩
    have hsim:(j5.fs (n1+1)).V7 l size k (-1)=a1P n1 (j5.fs n1) l size k (-1):=rfl
    rw[hsim]
    unfold a1P
    rcases E n n1 (by omega) (by omega)with⟨x,q,p1,p2,p3,p4,p5,p6⟩ |⟨x,q,pl,f,p1,p2,p3,p4,p5⟩
    case inr =>
      simp (disch:=omega) only[p1,p2,SSx C]
      exact .inr ⟨_,q,pl,f,rfl,rfl,p3,p4,p5⟩
    have hx:=x.a2t
    simp (disch:=omega) only[p1,p2,SSx C]
    rcases sgx C p4 61 []with⟨b,hb,e1,e2,e3,e4,e5⟩ |⟨b,e1,e2,e3,e4,e5⟩
    · simp (disch:=omega) only[e4,e5,e2,e3,SSx C]
      obtain⟨pb,pb1,pb2⟩:=c7M p6 (n:=n) (n':=n1) (by omega) (by omega)
      rw[pb1,pb2]
      cases pb
      · simp (disch:=omega) only[SSx C]
        exact .inr ⟨_,q,x.at_,_,rfl,rfl,p3,p4,.inr ⟨p6.at,rfl⟩⟩
      · simp (disch:=omega) only[e2,SSx C]
        rcases H.expr (q+1) n n1 (by omega) hb (by omega) (by omega)with⟨y,q2,r1,r2,r3,r4,r5,r6⟩ |⟨y,q2,pl,f,r1,r2,r3,r4,r5⟩
        case inr =>
          simp (disch:=omega) only[r1,r2,SSx C]
          exact .inr ⟨_,q2,pl,f,rfl,rfl,by omega,r4,r5⟩
        simp (disch:=omega) only[r1,r2,b9r x y (show 144<=1000 by omega),SSx C]
        rcases sgx C r4 59 []with⟨b,hs,e1,e2,e3,e4,e5⟩ |⟨b,e1,e2,e3,e4,e5⟩
        · simp (disch:=omega) only[e2,e3,SSx C]
          exact .inl ⟨_,q2+1,rfl,rfl,by omega,hs,by simp only[szs];omega,.assign p6.at p6 r6⟩
        · simp (disch:=omega) only[e2,e3,SSx C]
          exact .inr ⟨_,q2,-1,_,rfl,rfl,by omega,r4,Z9 l size q2⟩
    · simp (disch:=omega) only[e4,e5,SSx C]
      rcases sgx C p4 59 []with⟨b,hs,e1,e2,e3,e4,e5⟩ |⟨b,e1,e2,e3,e4,e5⟩
      · simp (disch:=omega) only[e2,e3,SSx C]
        exact .inl ⟨_,q+1,rfl,rfl,by omega,hs,by simp only[szs];omega,.sole p6.at p6⟩
      · simp (disch:=omega) only[e2,e3,SSx C]
        exact .inr ⟨_,q,-1,_,rfl,rfl,by omega,p4,Z9 l size q⟩
  cases hK:isK l 9 k
  · refine dflt [] (by rw[fw,hK];rfl) (by rw[fw,hK];rfl) (by rw[fw,hK];rfl) (by rw[fw,hK];rfl) (by rw[fw,hK];rfl) (by rw[fw,hK];rfl) (by rw[fw,hK];rfl) (by rw[fw,hK];rfl) (by rw[fw,hK];rfl) (by simp[eqS]) (by simp[eqS]) (by simp[eqS]) (by simp[eqS]) (by simp[eqS]) (by simp[eqS]) (by simp[eqS]) (by simp[eqS]) (by simp[eqS]) (word _ hK)
  by_cases hw:N8 l k=[108,101,116]
  · have hu:=word _ hK
    rw[cond_true,hw]at hu
    have hT:isT l 9 [108,101,116] k=true:=by rw[fw,hK,hw];exact a2B _
    have hb:k+1<=l.length:=a2b hT
    unfold J4 J5
    rw[hu]
    simp (disch:=omega) only[kyv C hk,nxv C hk,fw,hK,hw,Bool.true_and,wq,SSx C]
    rcases c22 C (n:=n) (n':=n') hN (by omega) (by omega) hk H (.inl hT)with⟨x,q,p1,p2,p3,p4,p5,p6⟩ |⟨x,q,pl,f,p1,p2,p3,p4,p5⟩
    · simp only[p1,p2,P6,Option.bind_some]
      exact .inl ⟨x,q,rfl,rfl,p3,p4,p5,p6⟩
    · simp only[p1,p2,O8,Option.bind_some]
      exact .inr ⟨x,q,pl,f,rfl,rfl,p3,p4,p5⟩
  have hw0:=hw
  clear hw
  by_cases hw:N8 l k=[118,97,114]
  · have hu:=word _ hK
    rw[cond_true,hw]at hu
    have hT:isT l 9 [118,97,114] k=true:=by rw[fw,hK,hw];exact a2B _
    have hb:k+1<=l.length:=a2b hT
    unfold J4 J5
    rw[hu]
    simp (disch:=omega) only[kyv C hk,nxv C hk,fw,hK,hw,Bool.true_and,wq,SSx C]
    rcases c22 C (n:=n) (n':=n') hN (by omega) (by omega) hk H (.inr hT)with⟨x,q,p1,p2,p3,p4,p5,p6⟩ |⟨x,q,pl,f,p1,p2,p3,p4,p5⟩
    · simp only[p1,p2,P6,Option.bind_some]
      exact .inl ⟨x,q,rfl,rfl,p3,p4,p5,p6⟩
    · simp only[p1,p2,O8,Option.bind_some]
      exact .inr ⟨x,q,pl,f,rfl,rfl,p3,p4,p5⟩
  have hw1:=hw
  clear hw
  by_cases hw:N8 l k=[105,102]
  · have hu:=word _ hK
    rw[cond_true,hw]at hu
    have hT:isT l 9 [105,102] k=true:=by rw[fw,hK,hw];exact a2B _
    have hb:k+1<=l.length:=a2b hT
    unfold J4 J5
    rw[hu]
    simp (disch:=omega) only[kyv C hk,nxv C hk,fw,hK,hw,Bool.true_and,wq,SSx C]
    rcases if_at C (n:=n) (n':=n') hN (by omega) (by omega) hk H hT with⟨x,q,p1,p2,p3,p4,p5,p6⟩ |⟨x,q,pl,f,p1,p2,p3,p4,p5⟩
    · simp only[p1,p2,P6,Option.bind_some]
      exact .inl ⟨x,q,rfl,rfl,p3,p4,p5,p6.1⟩
    · simp only[p1,p2,O8,Option.bind_some]
      exact .inr ⟨x,q,pl,f,rfl,rfl,p3,p4,p5⟩
  have hw2:=hw
  clear hw
  by_cases hw:N8 l k=[109,97,116,99,104]
  · have hu:=word _ hK
    rw[cond_true,hw]at hu
    have hT:isT l 9 [109,97,116,99,104] k=true:=by rw[fw,hK,hw];exact a2B _
    have hb:k+1<=l.length:=a2b hT
    unfold J4 J5
    rw[hu]
    simp (disch:=omega) only[kyv C hk,nxv C hk,fw,hK,hw,Bool.true_and,wq,SSx C]
    rcases match_at C (n:=n) (n':=n') hN (by omega) (by omega) hk H hT with⟨x,q,p1,p2,p3,p4,p5,p6⟩ |⟨x,q,pl,f,p1,p2,p3,p4,p5⟩
    · rw[p2]
      simp only[p1,P6]
      exact .inl ⟨x,q,rfl,rfl,p3,p4,p5,p6⟩
    · rw[p2]
      simp only[p1,O8]
      exact .inr ⟨x,q,pl,f,rfl,rfl,p3,p4,p5⟩
  have hw3:=hw
  clear hw
  by_cases hw:N8 l k=[100,101,102,101,114]
  · have hu:=word _ hK
    rw[cond_true,hw]at hu
    have hT:isT l 9 [100,101,102,101,114] k=true:=by rw[fw,hK,hw];exact a2B _
    have hb:k+1<=l.length:=a2b hT
    unfold J4 J5
    rw[hu]
    simp (disch:=omega) only[kyv C hk,nxv C hk,fw,hK,hw,Bool.true_and,wq,SSx C]
    obtain⟨n1,rfl⟩:∃q,n=q+1:=⟨n-1,by omega⟩
    have hone:∀op:Int,(j6.fs (n1+1)).V8 op l k size=a01 n1 (j6.fs n1) op l k size:=fun _=>rfl
    simp only[hone,a01,a9K C hk,Option.bind_some,a0r (show k<=1000000 by omega)]
    rcases H.block (k+1) n1 n' (Nat.le_refl _) hb (by omega) (by omega)with⟨x,q,p1,p2,p3,p4,p5,p6⟩ |⟨x,q,pl,f,p1,p2,p3,p4,p5⟩
    · simp only[p1,p2,P6,Option.bind_some]
      exact .inl ⟨_,q,rfl,rfl,by omega,p4,by simp only[szs];omega,.defer (C.pos k) p6⟩
    · simp only[p1,p2,O8,Option.bind_some]
      exact .inr ⟨_,q,pl,f,rfl,rfl,by omega,p4,p5⟩
  have hw4:=hw
  clear hw
  by_cases hw:N8 l k=[119,104,105,108,101]
  · have hu:=word _ hK
    rw[cond_true,hw]at hu
    have hT:isT l 9 [119,104,105,108,101] k=true:=by rw[fw,hK,hw];exact a2B _
    have hb:k+1<=l.length:=a2b hT
    unfold J4 J5
    rw[hu]
    simp (disch:=omega) only[kyv C hk,nxv C hk,fw,hK,hw,Bool.true_and,wq,SSx C]
    rcases H.expr (k+1) n n' (Nat.le_refl _) hb (by omega) (by omega)with⟨x,q,p1,p2,p3,p4,p5,p6⟩ |⟨x,q,pl,f,p1,p2,p3,p4,p5⟩
    case inr =>
      simp (disch:=omega) only[p1,p2,SSx C]
      exact .inr ⟨_,q,pl,f,rfl,rfl,by omega,p4,p5⟩
    have hx:=x.a2t
    simp (disch:=omega) only[p1,p2,SSx C]
    rcases H.block q n n' (by omega) p4 (by omega) (by omega)with⟨y,q2,r1,r2,r3,r4,r5,r6⟩ |⟨y,q2,pl,f,r1,r2,r3,r4,r5⟩
    · simp (disch:=omega) only[r1,r2,b9r x y (show 144<=1000 by omega),SSx C]
      exact .inl ⟨_,q2,rfl,rfl,by omega,r4,by simp only[szs];omega,.whil (C.pos k) p6 r6⟩
    · simp (disch:=omega) only[r1,r2,SSx C]
      exact .inr ⟨_,q2,pl,f,rfl,rfl,by omega,r4,r5⟩
  have hw5:=hw
  clear hw
  by_cases hw:N8 l k=[114,101,116,117,114,110]
  · have hu:=word _ hK
    rw[cond_true,hw]at hu
    have hT:isT l 9 [114,101,116,117,114,110] k=true:=by rw[fw,hK,hw];exact a2B _
    have hb:k+1<=l.length:=a2b hT
    unfold J4 J5
    rw[hu]
    simp (disch:=omega) only[kyv C hk,nxv C hk,fw,hK,hw,Bool.true_and,wq,SSx C]
    rcases sgx C hb 59 []with⟨b,hs,e1,e2,e3,e4,e5⟩ |⟨b,e1,e2,e3,e4,e5⟩
    · simp (disch:=omega) only[e1,e2,SSx C]
      exact .inl ⟨_,k+1+1,rfl,rfl,by omega,hs,by simp only[szs];omega,.ret0 (C.pos k)⟩
    simp (disch:=omega) only[e1,e2,SSx C]
    rcases H.expr (k+1) n n' (Nat.le_refl _) hb (by omega) (by omega)with⟨x,q,p1,p2,p3,p4,p5,p6⟩ |⟨x,q,pl,f,p1,p2,p3,p4,p5⟩
    case inr =>
      simp (disch:=omega) only[p1,p2,SSx C]
      exact .inr ⟨_,q,pl,f,rfl,rfl,by omega,p4,p5⟩
    simp (disch:=omega) only[p1,p2,SSx C]
    rcases sgx C p4 59 []with⟨b,hs,e1,e2,e3,e4,e5⟩ |⟨b,e1,e2,e3,e4,e5⟩
    · simp (disch:=omega) only[e2,e3,SSx C]
      exact .inl ⟨_,q+1,rfl,rfl,by omega,hs,by simp only[szs];omega,.ret1 (C.pos k) p6⟩
    · simp (disch:=omega) only[e2,e3,SSx C]
      exact .inr ⟨_,q,-1,_,rfl,rfl,by omega,p4,Z9 l size q⟩
  have hw6:=hw
  clear hw
  by_cases hw:N8 l k=[116,104,114,111,119]
  · have hu:=word _ hK
    rw[cond_true,hw]at hu
    have hT:isT l 9 [116,104,114,111,119] k=true:=by rw[fw,hK,hw];exact a2B _
    have hb:k+1<=l.length:=a2b hT
    unfold J4 J5
    rw[hu]
    simp (disch:=omega) only[kyv C hk,nxv C hk,fw,hK,hw,Bool.true_and,wq,SSx C]
    rcases H.expr (k+1) n n' (Nat.le_refl _) hb (by omega) (by omega)with⟨x,q,p1,p2,p3,p4,p5,p6⟩ |⟨x,q,pl,f,p1,p2,p3,p4,p5⟩
    case inr =>
      simp (disch:=omega) only[p1,p2,SSx C]
      exact .inr ⟨_,q,pl,f,rfl,rfl,by omega,p4,p5⟩
    simp (disch:=omega) only[p1,p2,SSx C]
    rcases sgx C p4 59 []with⟨b,hs,e1,e2,e3,e4,e5⟩ |⟨b,e1,e2,e3,e4,e5⟩
    · simp (disch:=omega) only[e2,e3,SSx C]
      exact .inl ⟨_,q+1,rfl,rfl,by omega,hs,by simp only[szs];omega,.throws (C.pos k) p6⟩
    · simp (disch:=omega) only[e2,e3,SSx C]
      exact .inr ⟨_,q,-1,_,rfl,rfl,by omega,p4,Z9 l size q⟩
  have hw7:=hw
  clear hw
  by_cases hw:N8 l k=[100,111]
  · have hu:=word _ hK
    rw[cond_true,hw]at hu
    have hT:isT l 9 [100,111] k=true:=by rw[fw,hK,hw];exact a2B _
    have hb:k+1<=l.length:=a2b hT
    unfold J4 J5
    rw[hu]
    simp (disch:=omega) only[kyv C hk,nxv C hk,fw,hK,hw,Bool.true_and,wq,SSx C]
    obtain⟨n1,rfl⟩:∃q,n=q+1:=⟨n-1,by omega⟩
    have hone:∀op:Int,(j6.fs (n1+1)).V8 op l k size=a01 n1 (j6.fs n1) op l k size:=fun _=>rfl
    simp only[hone,a01,a9K C hk,Option.bind_some,a0r (show k<=1000000 by omega)]
    rcases H.block (k+1) n1 n' (Nat.le_refl _) hb (by omega) (by omega)with⟨x,q,p1,p2,p3,p4,p5,p6⟩ |⟨x,q,pl,f,p1,p2,p3,p4,p5⟩
    case inr =>
      simp (disch:=omega) only[p1,p2,SSx C]
      exact .inr ⟨_,q,pl,f,rfl,rfl,by omega,p4,p5⟩
    have hx:=x.a2t
    simp (disch:=omega) only[p1,p2,SSx C]
    rcases kyx C p4 99 [97,116,99,104]with⟨b,hs,e1,e2,e3,e4,e5⟩ |⟨b,e1,e2,e3,e4,e5⟩
    case inr =>
      simp (disch:=omega) only[e2,e3,SSx C]
      exact .inr ⟨_,q,-1,_,rfl,rfl,by omega,p4,Z9 l size q⟩
    simp (disch:=omega) only[e2,e3,SSx C]
    rcases nmx C hs with⟨c,hc,e1,e2,e3⟩ |⟨c,e1,e2,e3⟩
    case inr =>
      simp (disch:=omega) only[e1,e2,SSx C]
      exact .inr ⟨_,q+1,-1,_,rfl,rfl,by omega,hs,Z9 l size (q+1)⟩
    simp (disch:=omega) only[e1,e2,SSx C]
    rcases H.block (q+1+1) (n1+1) n' (by omega) hc (by omega) (by omega)with⟨y,q2,r1,r2,r3,r4,r5,r6⟩ |⟨y,q2,pl,f,r1,r2,r3,r4,r5⟩
    · simp (disch:=omega) only[r1,r2,b9r x y (show 144<=1000 by omega),SSx C]
      exact .inl ⟨_,q2,rfl,rfl,by omega,r4,by simp only[szs];omega,.doc (C.pos k) p6 r6⟩
    · simp (disch:=omega) only[r1,r2,SSx C]
      exact .inr ⟨_,q2,pl,f,rfl,rfl,by omega,r4,r5⟩
  have hw8:=hw
  clear hw
  exact dflt (N8 l k) (by rw[fw,hK];simp[eqS,hw0]) (by rw[fw,hK];simp[eqS,hw1]) (by rw[fw,hK];simp[eqS,hw2]) (by rw[fw,hK];simp[eqS,hw3]) (by rw[fw,hK];simp[eqS,hw4]) (by rw[fw,hK];simp[eqS,hw5]) (by rw[fw,hK];simp[eqS,hw6]) (by rw[fw,hK];simp[eqS,hw7]) (by rw[fw,hK];simp[eqS,hw8]) (by simp[eqS,hw0]) (by simp[eqS,hw1]) (by simp[eqS,hw2]) (by simp[eqS,hw3]) (by simp[eqS,hw4]) (by simp[eqS,hw5]) (by simp[eqS,hw6]) (by simp[eqS,hw7]) (by simp[eqS,hw8]) (word _ hK)
theorem b81 {N M n n' k0:Nat}(hN:24000<=N)(hn:M<=n)(hn':M<=n')(hM:N<=M)(Q:∀k n n',k0<=k->k<=l.length->M<=n->M<=n'->a4h l size k Nod.sz (G 1) ((j6.fs n).K7 l k size) ((j5.fs n').K8 l size k (-1))):∀(m m' k:Nat) (xs:List Nod),k0<=k->k<=l.length->l.length-k<m->l.length-k<m'->szN xs+4*k0<=4*k ->(∀x∈xs,G 1 x) ->
  (∃(q:Nat) (ys:List Nod),a0x n (j6.fs n) size l m xs k=some (.brk (ys,(q:Int)))/\a0A n' (j5.fs n') size l m' xs k (-1)=some (.brk (ys,(q:Int),-1))/\k<=q/\q<=l.length/\szN ys+4*k0+4<=4*q /\ ∀x∈ys,G 1 x) ∨
  (∃(q:Nat) (y:List Nod) (pl:Int) (f:o7),a0x n (j6.fs n) size l m xs k=some (.out (.pan (f,(q:Int))))/\a0A n' (j5.fs n') size l m' xs k (-1)=some (.out (y,false,(q:Int),pl))/\k<=q/\q<=l.length/\a2m l size q pl f)
 | 0,m',k,xs,h1,h2,h3,h4,h5,h6=>by omega
 | m+1,0,k,xs,h1,h2,h3,h4,h5,h6=>by omega
 | m+1,m'+1,k,xs,h1,h2,h3,h4,h5,h6=>by
  have hl:=C.hl
  have hlen:=a0Z xs
  rw[a0x.eq_2,a0A.eq_2]
  rcases sgx C h2 125 []with⟨b,hb,e1,e2,e3,e4,e5⟩ |⟨b,e1,e2,e3,e4,e5⟩
  ·rw[e1,e2]
   exact .inl ⟨k+1,xs,rfl,rfl,by omega,hb,by omega,h6⟩
  ·rw[e1,e2]
   simp only[Option.bind_some,Bool.not_false,cond_true]
   rcases Q k n n' h1 h2 hn hn' with⟨x,q,p1,p2,p3,p4,p5,p6⟩ |⟨x,q,pl,f,p1,p2,p3,p4,p5⟩
   ·have a1:app 144 xs [x]=some (xs++[x]):=a6d (by omega) (by simp) (by omega)
    have hx:=x.a2t
    simp only[p1,p2,a1,P6,Option.bind_some,Bool.not_true,cond_false]
    rcases b81 hN hn hn' hM Q m m' q (xs++[x]) (by omega) p4 (by omega) (by omega) (by simp only[szs];omega) (a6y h6 (a5m p6))with⟨q',ys,y1,y2,y3,y4,y5,y6⟩ |⟨q',y,pl,f,y1,y2,y3,y4,y5⟩
    ·exact .inl ⟨q',ys,y1,y2,by omega,y4,y5,y6⟩
    ·exact .inr ⟨q',y,pl,f,y1,y2,by omega,y4,y5⟩
   ·simp only[p1,p2,O8,Option.bind_some,Bool.not_false,cond_true]
    exact .inr ⟨q,_,pl,f,rfl,rfl,by omega,p4,p5⟩
theorem stmts_at {N M n n' k:Nat}(hN:24000<=N)(hn:M+1<=n)(hn':M+1<=n')(hM:N<=M)(hk:k<=l.length)(Q:∀q n n',k<=q->q<=l.length->M<=n->M<=n'->a4h l size q Nod.sz (G 1) ((j6.fs n).K7 l q size) ((j5.fs n').K8 l size q (-1))) :
  a4h l size k (fun x=>szN x+4) (fun x=>∀y∈x,G 1 y) ((j6.fs n).M8 l k size) ((j5.fs n').M9 l size k (-1)):=by
 have hl:=C.hl
 obtain⟨n,rfl⟩:∃q,n=q+1:=⟨n-1,by omega⟩
 obtain⟨n',rfl⟩:∃q,n'=q+1:=⟨n'-1,by omega⟩
 show a4h l size k _ _ (a0I n (j6.fs n) l k size) (a0J n' (j5.fs n') l size k (-1))
 unfold a0I a0J
 rcases b81 C (n:=n) (n':=n') (k0:=k) hN (by omega) (by omega) hM Q n n' k [] (Nat.le_refl _) hk (by omega) (by omega) (by simp only[szs];omega) all_nil with⟨q',ys,y1,y2,y3,y4,y5,y6⟩ |⟨q',y,pl,f,y1,y2,y3,y4,y5⟩
 ·rw[y1,y2]
  exact .inl ⟨ys,q',rfl,rfl,y3,y4,(by show szN ys+4+4*k<=4*q';omega),y6⟩
 ·rw[y1,y2]
  exact .inr ⟨_,q',pl,f,rfl,rfl,y3,y4,y5⟩
theorem hyp_step {N k:Nat}(hN:24000<=N)(H:Hyp l size (k+1) N):Hyp l size k (N+20):=by
 have U:∀n n',k<=l.length->N+4<=n->N+4<=n'->a4h l size k Nod.sz (G 0) ((j6.fs n).I9 l k size) ((j5.fs n').K5 l size k (-1)):=fun n n' hk h1 h2=>unary_at C hN h1 h2 hk H
 have L:∀j n n',k<=l.length->j<=5->N+5<=n->N+10<=n'->c2h l size j k n n':=fun j n n' hk hj h1 h2=>lev_at C hN (by omega) h2 hk H hj fun n' h3=>U n n' hk (by omega) h3
 have E:∀n n',k<=l.length->N+15<=n->N+15<=n'->a4h l size k Nod.sz (G 0) ((j6.fs n).G8 l k size) ((j5.fs n').H8 l size k (-1)):=fun n n' hk h1 h2=>expr_at C (N:=N+4) (by omega) (by omega) fun n n' h3 h4=>L 0 n n' hk (by omega) (by omega) (by omega)
 have Q:∀n n',k<=l.length->N+17<=n->N+17<=n'->a4h l size k Nod.sz (G 1) ((j6.fs n).K7 l k size) ((j5.fs n').K8 l size k (-1)):=fun n n' hk h1 h2=>stmt_at C hN h1 h2 hk H fun n n'=>E n n' hk
 have cut:∀{q:Nat},k<=q->q=k∨k+1<=q:=fun h=>by omega
 refine⟨fun q n n' h hk h1 h2=>?_,fun q n n' h hk h1 h2=>?_,fun j q n n' hj h hk h1 h2=>?_,fun m0 q n n' hm h hk h1 h2=>?_,fun q n n' h hk h1 h2=>?_,fun q n n' h hk h1 h2=>?_,fun q n n' h hk h1 h2=>?_,fun q n n' hi h hk h1 h2=>?_⟩
 ·rcases cut h with rfl|h
  ·exact E n n' hk (by omega) (by omega)
  ·exact H.expr q n n' h hk (by omega) (by omega)
 ·rcases cut h with rfl|h
  ·exact U n n' hk (by omega) (by omega)
  ·exact H.unary q n n' h hk (by omega) (by omega)
 ·rcases cut h with rfl|h
  ·exact L j n n' hk hj (by omega) (by omega)
  ·exact H.lev j q n n' hj h hk (by omega) (by omega)
 ·rcases cut h with rfl|h
  ·exact args_at C hN (by omega) (by omega) hk H hm
  ·exact H.args m0 q n n' hm h hk (by omega) (by omega)
 ·rcases cut h with rfl|h
  ·refine stmts_at C (M:=N+17) hN (by omega) (by omega) (by omega) hk fun r n n' g gk g1 g2=>?_
   rcases cut g with rfl|g
   ·exact Q n n' gk g1 g2
   ·exact H.stmt r n n' g gk (by omega) (by omega)
  ·exact H.stmts q n n' h hk (by omega) (by omega)
 ·rcases cut h with rfl|h
  ·exact Q n n' hk (by omega) (by omega)
  ·exact H.stmt q n n' h hk (by omega) (by omega)
 ·rcases cut h with rfl|h
  ·exact block_at C hN (by omega) (by omega) hk H
  ·exact H.block q n n' h hk (by omega) (by omega)
 ·rcases cut h with rfl|h
  ·exact if_at C hN (by omega) (by omega) hk H hi
  ·exact H.iff q n n' hi h hk (by omega) (by omega)
theorem c6E:∀(R k:Nat),l.length<k+R->Hyp l size k (24000+20*R)
 | 0,k,h=>⟨fun q n n' h1 hk=>by omega,fun q n n' h1 hk=>by omega,fun j q n n' hj h1 hk=>by omega,fun m0 q n n' hm h1 hk=>by omega,fun q n n' h1 hk=>by omega,fun q n n' h1 hk=>by omega,fun q n n' h1 hk=>by omega,fun q n n' hi h1 hk=>by omega⟩
 | R+1,k,h=>by
  have:=hyp_step C (N:=24000+20*R) (by omega) (c6E R (k+1) (by omega))
  exact this
theorem hyp0:Hyp l size 0 90000:=by
 have hl:=C.hl
 have H:=c6E C 3001 0 (by omega)
 exact⟨fun k n n' h hk h1 h2=>H.expr k n n' h hk (by omega) (by omega),fun k n n' h hk h1 h2=>H.unary k n n' h hk (by omega) (by omega),fun j k n n' hj h hk h1 h2=>H.lev j k n n' hj h hk (by omega) (by omega),fun m0 k n n' hm h hk h1 h2=>H.args m0 k n n' hm h hk (by omega) (by omega),fun k n n' h hk h1 h2=>H.stmts k n n' h hk (by omega) (by omega),fun k n n' h hk h1 h2=>H.stmt k n n' h hk (by omega) (by omega),fun k n n' h hk h1 h2=>H.block k n n' h hk (by omega) (by omega),fun k n n' hi h hk h1 h2=>H.iff k n n' hi h hk (by omega) (by omega)⟩
end
end Go.Proofs.YtcbjnilpecpbmaaGreatDoor
namespace Go.Proofs.YtcbjnilpecpbmaaGreatDoor
open Go Go.Vm
def S2 {A B:Type}(Q:A->B->Prop)(p:Option A)(r:Option B):Prop:=∃a b,p=some a/\r=some b/\Q a b
theorem S2mk {A B:Type}{Q:A->B->Prop}{a:A}{b:B}(h:Q a b):S2 Q (some a) (some b):=⟨a,b,rfl,rfl,h⟩
def bS {α ρ β:Type}(x:Option (Lr α ρ))(f:α->Option β)(o:ρ->Option β):Option β:=match x with
 | none=>none
 | some (.brk a)=>f a
 | some (.out r)=>o r
theorem NFx:(∀{α β γ:Type} (x:Option α) (f:α->Option β) (g:β->Option γ),(x.bind f).bind g=x.bind fun a=>(f a).bind g) /\
  (∀{α β γ δ:Type} (x:Option δ) (f:δ->Option (Rs α β)) (k:α->Option γ) (p:β->Option γ),A8 (x.bind f) k p=x.bind fun a=>A8 (f a) k p) /\
  (∀{α ρ:Type} (x:Option (Lr α ρ)) (k:α->Option ρ),M4 x k=bS x k some) /\
  (∀{α γ ρ:Type} (x:Option (Lr α ρ)) (k:α->Option (Lr γ ρ)),a3U x k=bS x k fun r=>some (.out r)) /\
  (∀{α β γ δ:Type} (x:Option (Rs α β)) (f:α->Option γ) (g:β->Option γ) (h:γ->Option δ),(A8 x f g).bind h=A8 x (fun a=>(f a).bind h) fun b=>(g b).bind h) /\
  (∀{α β α' β' γ:Type} (x:Option (Rs α β)) (f:α->Option (Rs α' β')) (g:β->Option (Rs α' β')) (k:α'->Option γ) (p:β'->Option γ),A8 (A8 x f g) k p=A8 x (fun a=>A8 (f a) k p) fun b=>A8 (g b) k p) /\
  (∀{α ρ β δ:Type} (x:Option δ) (f:δ->Option (Lr α ρ)) (h:α->Option β) (o:ρ->Option β),bS (x.bind f) h o=x.bind fun a=>bS (f a) h o) /\
  (∀{α ρ β δ ε:Type} (x:Option (Rs δ ε)) (f:δ->Option (Lr α ρ)) (g:ε->Option (Lr α ρ)) (h:α->Option β) (o:ρ->Option β),bS (A8 x f g) h o=A8 x (fun a=>bS (f a) h o) fun b=>bS (g b) h o) /\
  (∀{α ρ β δ ε:Type} (x:Option (Lr δ ε)) (f:δ->Option (Lr α ρ)) (g:ε->Option (Lr α ρ)) (h:α->Option β) (o:ρ->Option β),bS (bS x f g) h o=bS x (fun a=>bS (f a) h o) fun b=>bS (g b) h o) /\
  (∀{α ρ β γ:Type} (x:Option (Lr α ρ)) (f:α->Option β) (o:ρ->Option β) (h:β->Option γ),(bS x f o).bind h=bS x (fun a=>(f a).bind h) fun b=>(o b).bind h) /\
  (∀{α ρ β γ δ:Type} (x:Option (Lr α ρ)) (f:α->Option (Rs β γ)) (o:ρ->Option (Rs β γ)) (k:β->Option δ) (p:γ->Option δ),A8 (bS x f o) k p=bS x (fun a=>A8 (f a) k p) fun b=>A8 (o b) k p) /\
  (∀{α ρ β:Type} (a:α) (f:α->Option β) (o:ρ->Option β),bS (some (.brk a)) f o=f a)/\(∀{α ρ β:Type} (r:ρ) (f:α->Option β) (o:ρ->Option β),bS (some (.out r)) f o=o r):=by
 refine⟨fun x f g=>?_,fun x f k p=>?_,fun x f=>?_,fun x f=>?_,fun x f g h=>?_,fun x f g k p=>?_,fun x f h o=>?_,fun x f g h o=>?_,fun x f g h o=>?_,fun x f o h=>?_,fun x f o k p=>?_,fun _ _ _=>rfl,fun _ _ _=>rfl⟩<;>(rcases x with _|x)<;>first|rfl |(cases x<;>rfl)
section
variable {l:List Tok} {size:Int} (C:Cx l size)
include C
theorem cpx {k:Nat}(hk:k<=l.length):(isK l 2 k=true/\k+1<=l.length/\F7 l k size=some (.ok (N8 l k))/\q9 2 l size k (-1)=some (N8 l k,true,((k+1:Nat):Int)))∨(isK l 2 k=false/\F7 l k size=some (.pan (I7 l size k))/\q9 2 l size k (-1)=some ([],false,(k:Int))):=by
 rcases cap C.hl hk size (-1)with⟨h,e1,e2,_⟩ |⟨e1,e2⟩
 ·refine .inl ⟨?_,h,e1,e2⟩
  rcases hb:isK l 2 k with _|_
  ·rcases kdx C hk 2 with⟨h,_⟩ |⟨_,_,_,e3,_⟩
   ·rw[h]at hb;cases hb
   ·rw[e2]at e3;simp at e3
  ·rfl
 ·refine .inr ⟨?_,e1,e2⟩
  rcases hb:isK l 2 k with _|_
  ·rfl
  ·rcases kdx C hk 2 with⟨_,_,t,_,_,_,_,_,_,e3,_⟩ |⟨h,_⟩
   ·rw[e2]at e3;simp at e3
   ·rw[h]at hb;cases hb
theorem a96 {kind kind':Int}{s u:Str}{k:Nat}(h:isT l kind s k=true)(hn:kind≠kind'):isT l kind' u k=false:=by
 rw[b6F C,Bool.and_eq_true]at h
 rw[b6F C,b52 C h.1 hn,Bool.false_and]
variable {A B:Type} {Q:A->B->Prop}
theorem c58 {k:Nat}{a:UInt8}{r:Str}{f:Bool×Int->Option A}{R:Option B}(hk:k<=l.length)(h1:isT l 8 (a::r) k=true->k+1<=l.length->S2 Q (f (true,((k+1:Nat):Int))) R)(h2:isT l 8 (a::r) k=false->S2 Q (f (false,(k:Int))) R):S2 Q ((x9 (a::r) l (k:Int) size).bind f) R:=by
 rcases sgx C hk a r with⟨b,hb,e1,e2,e3,e4,e5⟩ |⟨b,e1,e2,e3,e4,e5⟩
 ·have:=h1 b hb
  rwa [show x9 (a::r) l (k:Int) size=_ from e1]
 ·have:=h2 b
  rwa [show x9 (a::r) l (k:Int) size=_ from e1]
theorem t_takeT {k:Nat}{a:UInt8}{r:Str}{f:Bool×Int->Option A}{R:Option B}(h:isT l 8 (a::r) k=true)(h1:k+1<=l.length->S2 Q (f (true,((k+1:Nat):Int))) R):S2 Q ((x9 (a::r) l (k:Int) size).bind f) R :=
 c58 C (Nat.le_of_lt (a2b h)) (fun _=>h1) (fun h2=>by rw[h]at h2;cases h2)
theorem c1I {k:Nat}{a:UInt8}{r:Str}{f:Bool×Int->Option A}{R:Option B}(hk:k<=l.length)(h:isT l 8 (a::r) k=false)(h2:S2 Q (f (false,(k:Int))) R):S2 Q ((x9 (a::r) l (k:Int) size).bind f) R :=
 c58 C hk (fun h1=>by rw[h]at h1;cases h1) (fun _=>h2)
theorem c6a {k:Nat}{a:UInt8}{r:Str}{f:Int->Option A}{g:Int×Int->Option A}{R:Option B}(hk:k<=l.length)(h1:isT l 8 (a::r) k=true->k+1<=l.length->S2 Q (f (((k+1:Nat):Int))) R)(h2:isT l 8 (a::r) k=false->S2 Q (g (I7 l size k,(k:Int))) R):S2 Q (A8 (u7 (a::r) l (k:Int) size) f g) R:=by
 rcases sgx C hk a r with⟨b,hb,e1,e2,e3,e4,e5⟩ |⟨b,e1,e2,e3,e4,e5⟩
 ·have:=h1 b hb
  rwa [show u7 (a::r) l (k:Int) size=_ from e3]
 ·have:=h2 b
  rwa [show u7 (a::r) l (k:Int) size=_ from e3]
theorem t_wantT {k:Nat}{a:UInt8}{r:Str}{f:Int->Option A}{g:Int×Int->Option A}{R:Option B}(h:isT l 8 (a::r) k=true)(h1:k+1<=l.length->S2 Q (f (((k+1:Nat):Int))) R):S2 Q (A8 (u7 (a::r) l (k:Int) size) f g) R :=
 c6a C (Nat.le_of_lt (a2b h)) (fun _=>h1) (fun h2=>by rw[h]at h2;cases h2)
theorem c1J {k:Nat}{a:UInt8}{r:Str}{f:Int->Option A}{g:Int×Int->Option A}{R:Option B}(hk:k<=l.length)(h:isT l 8 (a::r) k=false)(h2:S2 Q (g (I7 l size k,(k:Int))) R):S2 Q (A8 (u7 (a::r) l (k:Int) size) f g) R :=
 c6a C hk (fun h1=>by rw[h]at h1;cases h1) (fun _=>h2)
theorem t_is8 {k:Nat}{a:UInt8}{r:Str}{f:Bool->Option A}{R:Option B}(hk:k<=l.length)(h1:isT l 8 (a::r) k=true->k+1<=l.length->S2 Q (f true) R)(h2:isT l 8 (a::r) k=false->S2 Q (f false) R):S2 Q ((u6 0 8 (a::r) l (k:Int) size).bind f) R:=by
 rcases sgx C hk a r with⟨b,hb,e1,e2,e3,e4,e5⟩ |⟨b,e1,e2,e3,e4,e5⟩
 ·have:=h1 b hb
  rwa [show u6 0 8 (a::r) l (k:Int) size=_ from e4]
 ·have:=h2 b
  rwa [show u6 0 8 (a::r) l (k:Int) size=_ from e4]
theorem t_is8T {k:Nat}{a:UInt8}{r:Str}{f:Bool->Option A}{R:Option B}(h:isT l 8 (a::r) k=true)(h1:k+1<=l.length->S2 Q (f true) R):S2 Q ((u6 0 8 (a::r) l (k:Int) size).bind f) R :=
 t_is8 C (Nat.le_of_lt (a2b h)) (fun _=>h1) (fun h2=>by rw[h]at h2;cases h2)
theorem c5W {k:Nat}{a:UInt8}{r:Str}{f:Bool->Option A}{R:Option B}(hk:k<=l.length)(h:isT l 8 (a::r) k=false)(h2:S2 Q (f false) R):S2 Q ((u6 0 8 (a::r) l (k:Int) size).bind f) R :=
 t_is8 C hk (fun h1=>by rw[h]at h1;cases h1) (fun _=>h2)
theorem t_key {k:Nat}{a:UInt8}{r:Str}{f:Bool×Int->Option A}{R:Option B}(hk:k<=l.length)(h1:isT l 9 (a::r) k=true->k+1<=l.length->S2 Q (f (true,((k+1:Nat):Int))) R)(h2:isT l 9 (a::r) k=false->S2 Q (f (false,(k:Int))) R):S2 Q ((D9 (a::r) l (k:Int) size).bind f) R:=by
 rcases kyx C hk a r with⟨b,hb,e1,e2,e3,e4,e5⟩ |⟨b,e1,e2,e3,e4,e5⟩
 ·have:=h1 b hb
  rwa [show D9 (a::r) l (k:Int) size=_ from e1]
 ·have:=h2 b
  rwa [show D9 (a::r) l (k:Int) size=_ from e1]
theorem t_keyT {k:Nat}{a:UInt8}{r:Str}{f:Bool×Int->Option A}{R:Option B}(h:isT l 9 (a::r) k=true)(h1:k+1<=l.length->S2 Q (f (true,((k+1:Nat):Int))) R):S2 Q ((D9 (a::r) l (k:Int) size).bind f) R :=
 t_key C (Nat.le_of_lt (a2b h)) (fun _=>h1) (fun h2=>by rw[h]at h2;cases h2)
theorem c5Y {k:Nat}{a:UInt8}{r:Str}{f:Bool×Int->Option A}{R:Option B}(hk:k<=l.length)(h:isT l 9 (a::r) k=false)(h2:S2 Q (f (false,(k:Int))) R):S2 Q ((D9 (a::r) l (k:Int) size).bind f) R :=
 t_key C hk (fun h1=>by rw[h]at h1;cases h1) (fun _=>h2)
theorem b6n {k:Nat}{a:UInt8}{r:Str}{f:Int->Option A}{g:Int×Int->Option A}{R:Option B}(hk:k<=l.length)(h1:isT l 9 (a::r) k=true->k+1<=l.length->S2 Q (f (((k+1:Nat):Int))) R)(h2:isT l 9 (a::r) k=false->S2 Q (g (I7 l size k,(k:Int))) R):S2 Q (A8 (G6 (a::r) l (k:Int) size) f g) R:=by
 rcases kyx C hk a r with⟨b,hb,e1,e2,e3,e4,e5⟩ |⟨b,e1,e2,e3,e4,e5⟩
 ·have:=h1 b hb
  rwa [show G6 (a::r) l (k:Int) size=_ from e3]
 ·have:=h2 b
  rwa [show G6 (a::r) l (k:Int) size=_ from e3]
theorem c6b {k:Nat}{a:UInt8}{r:Str}{f:Int->Option A}{g:Int×Int->Option A}{R:Option B}(h:isT l 9 (a::r) k=true)(h1:k+1<=l.length->S2 Q (f (((k+1:Nat):Int))) R):S2 Q (A8 (G6 (a::r) l (k:Int) size) f g) R :=
 b6n C (Nat.le_of_lt (a2b h)) (fun _=>h1) (fun h2=>by rw[h]at h2;cases h2)
theorem b4V {k:Nat}{a:UInt8}{r:Str}{f:Int->Option A}{g:Int×Int->Option A}{R:Option B}(hk:k<=l.length)(h:isT l 9 (a::r) k=false)(h2:S2 Q (g (I7 l size k,(k:Int))) R):S2 Q (A8 (G6 (a::r) l (k:Int) size) f g) R :=
 b6n C hk (fun h1=>by rw[h]at h1;cases h1) (fun _=>h2)
theorem t_is9 {k:Nat}{a:UInt8}{r:Str}{f:Bool->Option A}{R:Option B}(hk:k<=l.length)(h1:isT l 9 (a::r) k=true->k+1<=l.length->S2 Q (f true) R)(h2:isT l 9 (a::r) k=false->S2 Q (f false) R):S2 Q ((u6 0 9 (a::r) l (k:Int) size).bind f) R:=by
 rcases kyx C hk a r with⟨b,hb,e1,e2,e3,e4,e5⟩ |⟨b,e1,e2,e3,e4,e5⟩
 ·have:=h1 b hb
  rwa [show u6 0 9 (a::r) l (k:Int) size=_ from e4]
 ·have:=h2 b
  rwa [show u6 0 9 (a::r) l (k:Int) size=_ from e4]
theorem t_is9T {k:Nat}{a:UInt8}{r:Str}{f:Bool->Option A}{R:Option B}(h:isT l 9 (a::r) k=true)(h1:k+1<=l.length->S2 Q (f true) R):S2 Q ((u6 0 9 (a::r) l (k:Int) size).bind f) R :=
 t_is9 C (Nat.le_of_lt (a2b h)) (fun _=>h1) (fun h2=>by rw[h]at h2;cases h2)
theorem c5X {k:Nat}{a:UInt8}{r:Str}{f:Bool->Option A}{R:Option B}(hk:k<=l.length)(h:isT l 9 (a::r) k=false)(h2:S2 Q (f false) R):S2 Q ((u6 0 9 (a::r) l (k:Int) size).bind f) R :=
 t_is9 C hk (fun h1=>by rw[h]at h1;cases h1) (fun _=>h2)
theorem c57 {k:Nat}{a:UInt8}{r:Str}{f:Bool×Int->Option B}{R:Option A}(hk:k<=l.length)(h1:isT l 8 (a::r) k=true->k+1<=l.length->S2 Q R (f (true,((k+1:Nat):Int))))(h2:isT l 8 (a::r) k=false->S2 Q R (f (false,(k:Int)))):S2 Q R ((o6 (a::r) l size (k:Int) (-1)).bind f):=by
 rcases sgx C hk a r with⟨b,hb,e1,e2,e3,e4,e5⟩ |⟨b,e1,e2,e3,e4,e5⟩
 ·have:=h1 b hb
  rwa [show o6 (a::r) l size (k:Int) (-1)=_ from e2]
 ·have:=h2 b
  rwa [show o6 (a::r) l size (k:Int) (-1)=_ from e2]
theorem t_signT {k:Nat}{a:UInt8}{r:Str}{f:Bool×Int->Option B}{R:Option A}(h:isT l 8 (a::r) k=true)(h1:k+1<=l.length->S2 Q R (f (true,((k+1:Nat):Int)))):S2 Q R ((o6 (a::r) l size (k:Int) (-1)).bind f) :=
 c57 C (Nat.le_of_lt (a2b h)) (fun _=>h1) (fun h2=>by rw[h]at h2;cases h2)
theorem c1H {k:Nat}{a:UInt8}{r:Str}{f:Bool×Int->Option B}{R:Option A}(hk:k<=l.length)(h:isT l 8 (a::r) k=false)(h2:S2 Q R (f (false,(k:Int)))):S2 Q R ((o6 (a::r) l size (k:Int) (-1)).bind f) :=
 c57 C hk (fun h1=>by rw[h]at h1;cases h1) (fun _=>h2)
theorem c7b {k:Nat}{a:UInt8}{r:Str}{f:Bool->Option B}{R:Option A}(hk:k<=l.length)(h1:isT l 8 (a::r) k=true->k+1<=l.length->S2 Q R (f true))(h2:isT l 8 (a::r) k=false->S2 Q R (f false)):S2 Q R ((C8 8 (a::r) l size (k:Int) (-1)).bind f):=by
 rcases sgx C hk a r with⟨b,hb,e1,e2,e3,e4,e5⟩ |⟨b,e1,e2,e3,e4,e5⟩
 ·have:=h1 b hb
  rwa [show C8 8 (a::r) l size (k:Int) (-1)=_ from e5]
 ·have:=h2 b
  rwa [show C8 8 (a::r) l size (k:Int) (-1)=_ from e5]
theorem t_next8T {k:Nat}{a:UInt8}{r:Str}{f:Bool->Option B}{R:Option A}(h:isT l 8 (a::r) k=true)(h1:k+1<=l.length->S2 Q R (f true)):S2 Q R ((C8 8 (a::r) l size (k:Int) (-1)).bind f) :=
 c7b C (Nat.le_of_lt (a2b h)) (fun _=>h1) (fun h2=>by rw[h]at h2;cases h2)
theorem b83 {k:Nat}{a:UInt8}{r:Str}{f:Bool->Option B}{R:Option A}(hk:k<=l.length)(h:isT l 8 (a::r) k=false)(h2:S2 Q R (f false)):S2 Q R ((C8 8 (a::r) l size (k:Int) (-1)).bind f) :=
 c7b C hk (fun h1=>by rw[h]at h1;cases h1) (fun _=>h2)
theorem c56 {k:Nat}{a:UInt8}{r:Str}{f:Bool×Int->Option B}{R:Option A}(hk:k<=l.length)(h1:isT l 9 (a::r) k=true->k+1<=l.length->S2 Q R (f (true,((k+1:Nat):Int))))(h2:isT l 9 (a::r) k=false->S2 Q R (f (false,(k:Int)))):S2 Q R ((w9 (a::r) l size (k:Int) (-1)).bind f):=by
 rcases kyx C hk a r with⟨b,hb,e1,e2,e3,e4,e5⟩ |⟨b,e1,e2,e3,e4,e5⟩
 ·have:=h1 b hb
  rwa [show w9 (a::r) l size (k:Int) (-1)=_ from e2]
 ·have:=h2 b
  rwa [show w9 (a::r) l size (k:Int) (-1)=_ from e2]
theorem t_rkeyT {k:Nat}{a:UInt8}{r:Str}{f:Bool×Int->Option B}{R:Option A}(h:isT l 9 (a::r) k=true)(h1:k+1<=l.length->S2 Q R (f (true,((k+1:Nat):Int)))):S2 Q R ((w9 (a::r) l size (k:Int) (-1)).bind f) :=
 c56 C (Nat.le_of_lt (a2b h)) (fun _=>h1) (fun h2=>by rw[h]at h2;cases h2)
theorem c1G {k:Nat}{a:UInt8}{r:Str}{f:Bool×Int->Option B}{R:Option A}(hk:k<=l.length)(h:isT l 9 (a::r) k=false)(h2:S2 Q R (f (false,(k:Int)))):S2 Q R ((w9 (a::r) l size (k:Int) (-1)).bind f) :=
 c56 C hk (fun h1=>by rw[h]at h1;cases h1) (fun _=>h2)
theorem c1F {k:Nat}{a:UInt8}{r:Str}{f:Bool->Option B}{R:Option A}(hk:k<=l.length)(h1:isT l 9 (a::r) k=true->k+1<=l.length->S2 Q R (f true))(h2:isT l 9 (a::r) k=false->S2 Q R (f false)):S2 Q R ((C8 9 (a::r) l size (k:Int) (-1)).bind f):=by
 rcases kyx C hk a r with⟨b,hb,e1,e2,e3,e4,e5⟩ |⟨b,e1,e2,e3,e4,e5⟩
 ·have:=h1 b hb
  rwa [show C8 9 (a::r) l size (k:Int) (-1)=_ from e5]
 ·have:=h2 b
  rwa [show C8 9 (a::r) l size (k:Int) (-1)=_ from e5]
theorem t_next9T {k:Nat}{a:UInt8}{r:Str}{f:Bool->Option B}{R:Option A}(h:isT l 9 (a::r) k=true)(h1:k+1<=l.length->S2 Q R (f true)):S2 Q R ((C8 9 (a::r) l size (k:Int) (-1)).bind f) :=
 c1F C (Nat.le_of_lt (a2b h)) (fun _=>h1) (fun h2=>by rw[h]at h2;cases h2)
theorem b84 {k:Nat}{a:UInt8}{r:Str}{f:Bool->Option B}{R:Option A}(hk:k<=l.length)(h:isT l 9 (a::r) k=false)(h2:S2 Q R (f false)):S2 Q R ((C8 9 (a::r) l size (k:Int) (-1)).bind f) :=
 c1F C hk (fun h1=>by rw[h]at h1;cases h1) (fun _=>h2)
theorem c5Z {k:Nat}  {f:Str->Option A}{g:Int->Option A}{R:Option B}(hk:k<=l.length)(h1:isK l 1 k=true->k+1<=l.length->S2 Q (f (N8 l k)) R)(h2:isK l 1 k=false->S2 Q (g (I7 l size k)) R):S2 Q (A8 (H7 l (k:Int) size) f g) R:=by
 rcases nmx C hk with⟨b,hb,e1,e2,e3⟩ |⟨b,e1,e2,e3⟩
 ·have:=h1 b hb
  rwa [show H7 l (k:Int) size=_ from e1]
 ·have:=h2 b
  rwa [show H7 l (k:Int) size=_ from e1]
theorem t_nameT {k:Nat}  {f:Str->Option A}{g:Int->Option A}{R:Option B}(h:isK l 1 k=true)(h1:k+1<=l.length->S2 Q (f (N8 l k)) R):S2 Q (A8 (H7 l (k:Int) size) f g) R :=
 c5Z C (Nat.le_of_lt (b22 h)) (fun _=>h1) (fun h2=>by rw[h]at h2;cases h2)
theorem t_nameF {k:Nat}  {f:Str->Option A}{g:Int->Option A}{R:Option B}(hk:k<=l.length)(h:isK l 1 k=false)(h2:S2 Q (g (I7 l size k)) R):S2 Q (A8 (H7 l (k:Int) size) f g) R :=
 c5Z C hk (fun h1=>by rw[h]at h1;cases h1) (fun _=>h2)
theorem c1K {k:Nat}  {f:Str×Bool×Int->Option B}{R:Option A}(hk:k<=l.length)(h1:isK l 1 k=true->k+1<=l.length->S2 Q R (f (N8 l k,true,((k+1:Nat):Int))))(h2:isK l 1 k=false->S2 Q R (f ([],false,(k:Int)))):S2 Q R ((q9 1 l size (k:Int) (-1)).bind f):=by
 rcases nmx C hk with⟨b,hb,e1,e2,e3⟩ |⟨b,e1,e2,e3⟩
 ·have:=h1 b hb
  rwa [show q9 1 l size (k:Int) (-1)=_ from e2]
 ·have:=h2 b
  rwa [show q9 1 l size (k:Int) (-1)=_ from e2]
theorem t_word1T {k:Nat}  {f:Str×Bool×Int->Option B}{R:Option A}(h:isK l 1 k=true)(h1:k+1<=l.length->S2 Q R (f (N8 l k,true,((k+1:Nat):Int)))):S2 Q R ((q9 1 l size (k:Int) (-1)).bind f) :=
 c1K C (Nat.le_of_lt (b22 h)) (fun _=>h1) (fun h2=>by rw[h]at h2;cases h2)
theorem t_word1F {k:Nat}  {f:Str×Bool×Int->Option B}{R:Option A}(hk:k<=l.length)(h:isK l 1 k=false)(h2:S2 Q R (f ([],false,(k:Int)))):S2 Q R ((q9 1 l size (k:Int) (-1)).bind f) :=
 c1K C hk (fun h1=>by rw[h]at h1;cases h1) (fun _=>h2)
theorem t_cap {k:Nat}  {f:Str->Option A}{g:Int->Option A}{R:Option B}(hk:k<=l.length)(h1:isK l 2 k=true->k+1<=l.length->S2 Q (f (N8 l k)) R)(h2:isK l 2 k=false->S2 Q (g (I7 l size k)) R):S2 Q (A8 (F7 l (k:Int) size) f g) R:=by
 rcases cpx C hk with⟨b,hb,e1,e2⟩ |⟨b,e1,e2⟩
 ·have:=h1 b hb
  rwa [show F7 l (k:Int) size=_ from e1]
 ·have:=h2 b
  rwa [show F7 l (k:Int) size=_ from e1]
theorem t_capT {k:Nat}  {f:Str->Option A}{g:Int->Option A}{R:Option B}(h:isK l 2 k=true)(h1:k+1<=l.length->S2 Q (f (N8 l k)) R):S2 Q (A8 (F7 l (k:Int) size) f g) R :=
 t_cap C (Nat.le_of_lt (b22 h)) (fun _=>h1) (fun h2=>by rw[h]at h2;cases h2)
theorem t_capF {k:Nat}  {f:Str->Option A}{g:Int->Option A}{R:Option B}(hk:k<=l.length)(h:isK l 2 k=false)(h2:S2 Q (g (I7 l size k)) R):S2 Q (A8 (F7 l (k:Int) size) f g) R :=
 t_cap C hk (fun h1=>by rw[h]at h1;cases h1) (fun _=>h2)
theorem c1L {k:Nat}  {f:Str×Bool×Int->Option B}{R:Option A}(hk:k<=l.length)(h1:isK l 2 k=true->k+1<=l.length->S2 Q R (f (N8 l k,true,((k+1:Nat):Int))))(h2:isK l 2 k=false->S2 Q R (f ([],false,(k:Int)))):S2 Q R ((q9 2 l size (k:Int) (-1)).bind f):=by
 rcases cpx C hk with⟨b,hb,e1,e2⟩ |⟨b,e1,e2⟩
 ·have:=h1 b hb
  rwa [show q9 2 l size (k:Int) (-1)=_ from e2]
 ·have:=h2 b
  rwa [show q9 2 l size (k:Int) (-1)=_ from e2]
theorem t_word2T {k:Nat}  {f:Str×Bool×Int->Option B}{R:Option A}(h:isK l 2 k=true)(h1:k+1<=l.length->S2 Q R (f (N8 l k,true,((k+1:Nat):Int)))):S2 Q R ((q9 2 l size (k:Int) (-1)).bind f) :=
 c1L C (Nat.le_of_lt (b22 h)) (fun _=>h1) (fun h2=>by rw[h]at h2;cases h2)
theorem t_word2F {k:Nat}  {f:Str×Bool×Int->Option B}{R:Option A}(hk:k<=l.length)(h:isK l 2 k=false)(h2:S2 Q R (f ([],false,(k:Int)))):S2 Q R ((q9 2 l size (k:Int) (-1)).bind f) :=
 c1L C hk (fun h1=>by rw[h]at h1;cases h1) (fun _=>h2)
theorem t_typ {n n' k:Nat}{f:Typ×Int->Option A}{g:Int×Int->Option A}{h:Typ×Bool×Int->Option B}(hk:k<=l.length)(hn:20000<=n)(hn':20000<=n')(hok:∀(t:Typ) (q:Nat),k<q->q<=l.length->t.sz+k<=q->S2 Q (f (t,(q:Int))) (h (t,true,(q:Int))))(hpan:∀(t:Typ) (q:Nat),k<=q->q<=l.length->S2 Q (g (I7 l size q,(q:Int))) (h (t,false,(q:Int)))):S2 Q (A8 (F3 n l (k:Int) size) f g) ((F6 n' l size (k:Int) (-1)).bind h):=by
 rcases typ4 C (n:=n) (n':=n') hk hn hn' with⟨t,q,e1,e2,e3,e4,e5⟩ |⟨t,q,e1,e2,e3,e4⟩
 ·rw[e1,e2];exact hok t q e3 e4 e5
 ·rw[e1,e2];exact hpan t q e3 e4
theorem t_block {n k:Nat}{f:Nod×Int->Option A}{g:o7×Int->Option A}{h:Nod×Bool×Int×Int->Option B}(hk:k<=l.length)(hn:90000<=n)(hok:∀(x:Nod) (q:Nat),k<=q->q<=l.length->x.sz+4*k<=4*q->S2 Q (f (x,(q:Int))) (h (x,true,(q:Int),-1)))(hpan:∀(x:Nod) (q:Nat) (pl:Int) (e:o7),k<=q->q<=l.length->a2m l size q pl e->S2 Q (g (e,(q:Int))) (h (x,false,(q:Int),pl))):S2 Q (A8 (I8 n l (k:Int) size) f g) ((I6 n l size (k:Int) (-1)).bind h):=by
 rcases(hyp0 C).block k n n (Nat.zero_le _) hk hn hn with⟨x,q,e1,e2,e3,e4,e5,_⟩ |⟨x,q,pl,e,e1,e2,e3,e4,e5⟩
 ·show S2 Q (A8 ((j6.fs n).I8 l (k:Int) size) f g) (((j5.fs n).I6 l size (k:Int) (-1)).bind h)
  rw[e1,e2];exact hok x q e3 e4 e5
 ·show S2 Q (A8 ((j6.fs n).I8 l (k:Int) size) f g) (((j5.fs n).I6 l size (k:Int) (-1)).bind h)
  rw[e1,e2];exact hpan x q pl e e3 e4 e5
theorem c8a {m0:List Nod}{n k:Nat}{f:List Nod×Int->Option A}{g:Int×Int->Option A}{h':List Nod×Bool×Int->Option B}(hT:isT l 8 [40] k=true)(hn:20000<=n)(hm:m0.length<=12000)
  (hok:∀(ys:List Nod) (q:Nat),k<=q->q<=l.length->szN ys+4*k<=4*q->ys.length<=12000->S2 Q (f (ys,(q:Int))) (h' (m0++ys,true,(q:Int)))) (hpan:∀(zs:List Nod) (q:Nat),k<=q->q<=l.length->S2 Q (g (I7 l size q,(q:Int))) (h' (zs,false,(q:Int)))):S2 Q (A8 (R9 n l (k:Int) size) f g) ((a0n n m0 l size ((k+1:Nat):Int) (-1)).bind h'):=by
 have hk:=a2b hT
 rcases b8n C (m0:=m0) (n:=n) (n':=n) (Nat.le_of_lt hk) hn hn hm with⟨q,ys,e1,e2,e3,e4,e5,e6,_⟩ |⟨q,ys,e1,e2,e3,e4,e5⟩ |⟨e1,e2⟩
 ·rw[e1,e3]
  have:=a0Z ys
  have:=C.hl
  exact hok ys q (by omega) e5 (by omega) (by omega)
 ·rw[e1,e3];exact hpan ys q e4 e5
 ·rw[(sgt C hT).2.2.1]at e2;simp at e2
theorem c79 {n k:Nat}{f:List Nod×Int->Option A}{g:Int×Int->Option A}{R:Option B}(hk:k<=l.length)(hT:isT l 8 [40] k=false)(hn:20000<=n)(h:S2 Q (g (I7 l size k,(k:Int))) R):S2 Q (A8 (R9 n l (k:Int) size) f g) R:=by
 unfold R9
 rw[(sgf C hk hT).2.2.1]
 exact h
theorem p_app {α:Type}{b:Nat}{x y:List α}{f:List α->Option A}{R:Option B}(h1:x.length<=100000)(h2:y.length<=100000)(hb:b<=1000)(h:S2 Q (f (x++y)) R):S2 Q ((app b x y).bind f) R:=by rw[a6d h1 h2 hb];exact h
theorem r_app {α:Type}{b:Nat}{x y:List α}{f:List α->Option B}{R:Option A}(h1:x.length<=100000)(h2:y.length<=100000)(hb:b<=1000)(h:S2 Q R (f (x++y))):S2 Q R ((app b x y).bind f):=by rw[a6d h1 h2 hb];exact h
def QM (l:List Tok)(size:Int)(k:Nat)(m0:List Nod):Rs (List Nod×Int) (Int×Int)->List Nod×Bool×Int->Prop:=fun a b=>match a with
 | .ok (ys,q)=>∃(n:Nat),q=n/\b =(m0++ys,true,q)/\k<=n/\n<=l.length/\szN ys+4*k<=4*n
 | .pan (e,q)=>∃(n:Nat) (zs:List Nod),q=n/\e=I7 l size n/\b =(zs,false,q)/\k<=n/\n<=l.length
theorem qm_ok {k:Nat}{m0 ys zs:List Nod}{q:Nat}(h:zs=m0++ys)(h1:k<=q)(h2:q<=l.length)(h3:szN ys+4*k<=4*q):S2 (QM l size k m0) (some (.ok (ys,(q:Int)))) (some (zs,true,(q:Int))):=S2mk ⟨q,rfl,by rw[h],h1,h2,h3⟩
theorem qm_pan {k:Nat}{m0 zs:List Nod}{q:Nat}(h1:k<=q)(h2:q<=l.length):S2 (QM l size k m0) (some (.pan (I7 l size q,(q:Int)))) (some (zs,false,(q:Int))):=S2mk ⟨q,zs,rfl,rfl,rfl,h1,h2⟩
theorem b6m {k:Nat}{m0:List Nod}{p:Option (Rs (List Nod×Int) (Int×Int))}{r:Option (List Nod×Bool×Int)}{f:List Nod×Int->Option A}{g:Int×Int->Option A}{h:List Nod×Bool×Int->Option B}(H:S2 (QM l size k m0) p r)
  (hok:∀(ys:List Nod) (q:Nat),k<=q->q<=l.length->szN ys+4*k<=4*q->ys.length<=12000->S2 Q (f (ys,(q:Int))) (h (m0++ys,true,(q:Int)))) (hpan:∀(zs:List Nod) (q:Nat),k<=q->q<=l.length->S2 Q (g (I7 l size q,(q:Int))) (h (zs,false,(q:Int)))):S2 Q (A8 p f g) (r.bind h):=by
 obtain⟨a,b,rfl,rfl,hq⟩:=H
 have hl:=C.hl
 cases a with
 | ok x =>
  obtain⟨ys,q⟩:=x
  obtain⟨n,rfl,rfl,h1,h2,h3⟩:=hq
  have:=a0Z ys
  exact hok ys n h1 h2 h3 (by omega)
 | pan x =>
  obtain⟨e,q⟩:=x
  obtain⟨n,zs,rfl,rfl,rfl,h1,h2⟩:=hq
  exact hpan zs n h1 h2
def QN (l:List Tok)(size:Int)(k:Nat):Rs (Nod×Int) (o7×Int)->Nod×Bool×Int×Int->Prop:=fun a b=>match a with
 | .ok (x,q)=>∃(n:Nat),q=n/\b =(x,true,q,-1)/\k<=n/\n<=l.length/\x.sz+4*k<=4*n
 | .pan (e,q)=>∃(n:Nat) (x:Nod) (pl:Int),q=n/\b =(x,false,q,pl)/\k<=n/\n<=l.length/\a2m l size n pl e
theorem qn_ok {k:Nat}{x y:Nod}{q:Nat}(h:y=x)(h1:k<=q)(h2:q<=l.length)(h3:x.sz+4*k<=4*q):S2 (QN l size k) (some (.ok (x,(q:Int)))) (some (y,true,(q:Int),-1)):=S2mk ⟨q,rfl,by rw[h],h1,h2,h3⟩
theorem qn_pan {k:Nat}{x:Nod}{q:Nat}{pl:Int}{e:o7}(h1:k<=q)(h2:q<=l.length)(h3:a2m l size q pl e):S2 (QN l size k) (some (.pan (e,(q:Int)))) (some (x,false,(q:Int),pl)):=S2mk ⟨q,x,pl,rfl,rfl,h1,h2,h3⟩
theorem c0t {k:Nat}{p:Option (Rs (Nod×Int) (o7×Int))}{r:Option (Nod×Bool×Int×Int)}{f:Nod×Int->Option A}{g:o7×Int->Option A}{h:Nod×Bool×Int×Int->Option B}(H:S2 (QN l size k) p r)
  (hok:∀(x:Nod) (q:Nat),k<q->q<=l.length->x.sz+4*k<=4*q->S2 Q (f (x,(q:Int))) (h (x,true,(q:Int),-1))) (hpan:∀(x:Nod) (q:Nat) (pl:Int) (e:o7),k<=q->q<=l.length->a2m l size q pl e->S2 Q (g (e,(q:Int))) (h (x,false,(q:Int),pl))):S2 Q (A8 p f g) (r.bind h):=by
 obtain⟨a,b,rfl,rfl,hq⟩:=H
 cases a with
 | ok x =>
  obtain⟨ys,q⟩:=x
  obtain⟨n,rfl,rfl,h1,h2,h3⟩:=hq
  exact hok ys n (by have:=Nod.a2t ys;omega) h2 h3
 | pan x =>
  obtain⟨e,q⟩:=x
  obtain⟨n,zs,pl,rfl,rfl,h1,h2,h3⟩:=hq
  exact hpan zs n pl e h1 h2 h3
def QP (l:List Tok)(size:Int)(k:Nat):Rs (Nod×Int) (Int×Int)->Nod×Bool×Int×Int->Prop:=fun a b=>match a with
 | .ok (x,q)=>∃(n:Nat),q=n/\b =(x,true,q,-1)/\k<=n/\n<=l.length/\x.sz+4*k<=4*n
 | .pan (e,q)=>∃(n:Nat) (x:Nod),q=n/\e=I7 l size n/\b =(x,false,q,-1)/\k<=n/\n<=l.length
theorem qp_ok {k:Nat}{x y:Nod}{q:Nat}(h:y=x)(h1:k<=q)(h2:q<=l.length)(h3:x.sz+4*k<=4*q):S2 (QP l size k) (some (.ok (x,(q:Int)))) (some (y,true,(q:Int),-1)):=S2mk ⟨q,rfl,by rw[h],h1,h2,h3⟩
theorem qp_pan {k:Nat}{x:Nod}{q:Nat}(h1:k<=q)(h2:q<=l.length):S2 (QP l size k) (some (.pan (I7 l size q,(q:Int)))) (some (x,false,(q:Int),-1)):=S2mk ⟨q,x,rfl,rfl,rfl,h1,h2⟩
theorem t_nop {k:Nat}{p:Option (Rs (Nod×Int) (Int×Int))}{r:Option (Nod×Bool×Int×Int)}{f:Nod×Int->Option A}{g:Int×Int->Option A}{h:Nod×Bool×Int×Int->Option B}(H:S2 (QP l size k) p r)
  (hok:∀(x:Nod) (q:Nat),k<=q->q<=l.length->x.sz+4*k<=4*q->S2 Q (f (x,(q:Int))) (h (x,true,(q:Int),-1))) (hpan:∀(x:Nod) (q:Nat),k<=q->q<=l.length->S2 Q (g (I7 l size q,(q:Int))) (h (x,false,(q:Int),-1))):S2 Q (A8 p f g) (r.bind h):=by
 obtain⟨a,b,rfl,rfl,hq⟩:=H
 cases a with
 | ok x =>
  obtain⟨ys,q⟩:=x
  obtain⟨n,rfl,rfl,h1,h2,h3⟩:=hq
  exact hok ys n h1 h2 h3
 | pan x =>
  obtain⟨e,q⟩:=x
  obtain⟨n,zs,rfl,rfl,rfl,h1,h2⟩:=hq
  exact hpan zs n h1 h2
def QS (l:List Tok)(size:Int)(k:Nat):Rs (Str×Typ×List Nod×Int×Int) (Int×Int)->Nod×Bool×Int×Int->Prop:=fun a b=>match a with
 | .ok (s,t,ys,a,q)=>∃(n:Nat),q=n/\b =(⟨7,s,0,t,[],ys,a⟩,true,q,-1)/\k<=n/\n<=l.length/\t.sz+szN ys+2+4*k<=4*n
 | .pan (e,q)=>∃(n:Nat) (x:Nod),q=n/\e=I7 l size n/\b =(x,false,q,-1)/\k<=n/\n<=l.length
theorem qs_ok {k:Nat}{s:Str}{t:Typ}{ys:List Nod}{a:Int}{y:Nod}{q:Nat}(h:y =⟨7,s,0,t,[],ys,a⟩)(h1:k<=q)(h2:q<=l.length)(h3:t.sz+szN ys+2+4*k<=4*q):S2 (QS l size k) (some (.ok (s,t,ys,a,(q:Int)))) (some (y,true,(q:Int),-1)):=S2mk ⟨q,rfl,by rw[h],h1,h2,h3⟩
theorem qs_pan {k:Nat}{x:Nod}{q:Nat}(h1:k<=q)(h2:q<=l.length):S2 (QS l size k) (some (.pan (I7 l size q,(q:Int)))) (some (x,false,(q:Int),-1)):=S2mk ⟨q,x,rfl,rfl,rfl,h1,h2⟩
theorem t_sig {k:Nat}{p:Option (Rs (Str×Typ×List Nod×Int×Int) (Int×Int))}{r:Option (Nod×Bool×Int×Int)}{f:Str×Typ×List Nod×Int×Int->Option A}{g:Int×Int->Option A}{h:Nod×Bool×Int×Int->Option B}(H:S2 (QS l size k) p r)
  (hok:∀(s:Str) (t:Typ) (ys:List Nod) (a:Int) (q:Nat),k<=q->q<=l.length->t.sz+szN ys+2+4*k<=4*q->S2 Q (f (s,t,ys,a,(q:Int))) (h (⟨7,s,0,t,[],ys,a⟩,true,(q:Int),-1))) (hpan:∀(x:Nod) (q:Nat),k<=q->q<=l.length->S2 Q (g (I7 l size q,(q:Int))) (h (x,false,(q:Int),-1))):S2 Q (A8 p f g) (r.bind h):=by
 obtain⟨a,b,rfl,rfl,hq⟩:=H
 cases a with
 | ok x =>
  obtain⟨s,t,ys,a,q⟩:=x
  obtain⟨n,rfl,rfl,h1,h2,h3⟩:=hq
  exact hok s t ys a n h1 h2 h3
 | pan x =>
  obtain⟨e,q⟩:=x
  obtain⟨n,zs,rfl,rfl,rfl,h1,h2⟩:=hq
  exact hpan zs n h1 h2
end
theorem two {P:Prop}(x:P:=by
 repeat' first
 | with_reducible assumption
 | with_reducible intro _
 |(simp (disch:=omega) only[NFx,SSx C,fin,List.append_nil,List.nil_append,List.append_assoc])
 |(simp (disch:=omega) only[NFx,SSx C,List.append_nil,List.nil_append,List.append_assoc])
  | with_reducible refine ih ?_ ?_ ?_ ?_ ?_ ?_ ?_|with_reducible refine ih ?_ ?_ ?_ ?_ ?_ ?_|with_reducible refine ih ?_ ?_ ?_ ?_ ?_|with_reducible refine lp ?_ ?_ ?_ ?_ ?_ ?_ ?_ ?_ ?_|with_reducible refine lp1 ?_ ?_ ?_ ?_ ?_ ?_|with_reducible refine lp1 ?_ ?_ ?_ ?_ ?_ ?_ ?_|with_reducible refine lp1 ?_ ?_ ?_ ?_ ?_ ?_ ?_ ?_|with_reducible refine lp1 ?_ ?_ ?_ ?_ ?_ ?_ ?_ ?_ ?_|with_reducible refine lp1 ?_ ?_ ?_ ?_ ?_ ?_ ?_ ?_ ?_ ?_|with_reducible refine lp2 ?_ ?_ ?_ ?_ ?_ ?_|with_reducible refine lp2 ?_ ?_ ?_ ?_ ?_ ?_ ?_|with_reducible refine lp2 ?_ ?_ ?_ ?_ ?_ ?_ ?_ ?_|with_reducible refine lp2 ?_ ?_ ?_ ?_ ?_ ?_ ?_ ?_ ?_|with_reducible refine lp2 ?_ ?_ ?_ ?_ ?_ ?_ ?_ ?_ ?_ ?_|with_reducible refine lp3 ?_ ?_ ?_ ?_ ?_ ?_|with_reducible refine lp3 ?_ ?_ ?_ ?_ ?_ ?_ ?_|with_reducible refine lp3 ?_ ?_ ?_ ?_ ?_ ?_ ?_ ?_|with_reducible refine lp3 ?_ ?_ ?_ ?_ ?_ ?_ ?_ ?_ ?_|with_reducible refine lp3 ?_ ?_ ?_ ?_ ?_ ?_ ?_ ?_ ?_ ?_|with_reducible refine lp4 ?_ ?_ ?_ ?_ ?_ ?_|with_reducible refine lp4 ?_ ?_ ?_ ?_ ?_ ?_ ?_|with_reducible refine lp4 ?_ ?_ ?_ ?_ ?_ ?_ ?_ ?_|with_reducible refine lp4 ?_ ?_ ?_ ?_ ?_ ?_ ?_ ?_ ?_|with_reducible refine lp4 ?_ ?_ ?_ ?_ ?_ ?_ ?_ ?_ ?_ ?_
  | with_reducible refine hF _ _ ?_ ?_ ?_ ?_|with_reducible refine hG _ _ ?_ ?_ ?_ ?_ ?_|with_reducible refine hN _ _ ?_ ?_ ?_|with_reducible refine hP _ _ ?_ ?_|with_reducible refine hT _ _ ?_ ?_ ?_|with_reducible refine hF ?_ ?_ ?_ ?_|with_reducible refine hF ?_ ?_ ?_|with_reducible refine hO ?_ ?_ ?_|with_reducible refine hO ?_ ?_ (Z9 _ _ _)|with_reducible refine hO _ _ _ ?_ ?_ ?_|with_reducible refine hO ?_ ?_
  | with_reducible refine t_takeT C (by assumption) (fun _=>?_)|with_reducible refine c1I C ?_ (by assumption) ?_|with_reducible refine c1I C ?_ (a7B C (by assumption) (by decide)) ?_|with_reducible refine c1I C ?_ (a96 C (by assumption) (by decide)) ?_
  | with_reducible refine t_wantT C (by assumption) (fun _=>?_)|with_reducible refine c1J C ?_ (by assumption) ?_|with_reducible refine c1J C ?_ (a7B C (by assumption) (by decide)) ?_|with_reducible refine c1J C ?_ (a96 C (by assumption) (by decide)) ?_
  | with_reducible refine t_is8T C (by assumption) (fun _=>?_)|with_reducible refine c5W C ?_ (by assumption) ?_|with_reducible refine c5W C ?_ (a7B C (by assumption) (by decide)) ?_|with_reducible refine c5W C ?_ (a96 C (by assumption) (by decide)) ?_
  | with_reducible refine t_is9T C (by assumption) (fun _=>?_)|with_reducible refine c5X C ?_ (by assumption) ?_|with_reducible refine c5X C ?_ (a7B C (by assumption) (by decide)) ?_|with_reducible refine c5X C ?_ (a96 C (by assumption) (by decide)) ?_
  | with_reducible refine t_keyT C (by assumption) (fun _=>?_)|with_reducible refine c5Y C ?_ (by assumption) ?_|with_reducible refine c5Y C ?_ (a7B C (by assumption) (by decide)) ?_|with_reducible refine c5Y C ?_ (a96 C (by assumption) (by decide)) ?_
  | with_reducible refine c6b C (by assumption) (fun _=>?_)|with_reducible refine b4V C ?_ (by assumption) ?_|with_reducible refine b4V C ?_ (a7B C (by assumption) (by decide)) ?_|with_reducible refine b4V C ?_ (a96 C (by assumption) (by decide)) ?_
  | with_reducible refine t_nameT C (by assumption) (fun _=>?_)|with_reducible refine t_nameF C ?_ (by assumption) ?_
  | with_reducible refine t_capT C (by assumption) (fun _=>?_)|with_reducible refine t_capF C ?_ (by assumption) ?_
  | with_reducible refine c58 C ?_ (fun _ _=>?_) (fun _=>?_)|with_reducible refine c6a C ?_ (fun _ _=>?_) (fun _=>?_)|with_reducible refine t_is8 C ?_ (fun _ _=>?_) (fun _=>?_)|with_reducible refine t_is9 C ?_ (fun _ _=>?_) (fun _=>?_)|with_reducible refine t_key C ?_ (fun _ _=>?_) (fun _=>?_)|with_reducible refine b6n C ?_ (fun _ _=>?_) (fun _=>?_)
  | with_reducible refine c5Z C ?_ (fun _ _=>?_) (fun _=>?_)|with_reducible refine t_cap C ?_ (fun _ _=>?_) (fun _=>?_)
  | with_reducible refine p_app C ?_ ?_ ?_ ?_
  | with_reducible refine t_signT C (by assumption) (fun _=>?_)|with_reducible refine c1H C ?_ (by assumption) ?_|with_reducible refine c1H C ?_ (a7B C (by assumption) (by decide)) ?_|with_reducible refine c1H C ?_ (a96 C (by assumption) (by decide)) ?_
  | with_reducible refine t_next8T C (by assumption) (fun _=>?_)|with_reducible refine b83 C ?_ (by assumption) ?_|with_reducible refine b83 C ?_ (a7B C (by assumption) (by decide)) ?_|with_reducible refine b83 C ?_ (a96 C (by assumption) (by decide)) ?_
  | with_reducible refine t_next9T C (by assumption) (fun _=>?_)|with_reducible refine b84 C ?_ (by assumption) ?_|with_reducible refine b84 C ?_ (a7B C (by assumption) (by decide)) ?_|with_reducible refine b84 C ?_ (a96 C (by assumption) (by decide)) ?_
  | with_reducible refine t_rkeyT C (by assumption) (fun _=>?_)|with_reducible refine c1G C ?_ (by assumption) ?_|with_reducible refine c1G C ?_ (a7B C (by assumption) (by decide)) ?_|with_reducible refine c1G C ?_ (a96 C (by assumption) (by decide)) ?_
  | with_reducible refine t_word1T C (by assumption) (fun _=>?_)|with_reducible refine t_word1F C ?_ (by assumption) ?_
  | with_reducible refine t_word2T C (by assumption) (fun _=>?_)|with_reducible refine t_word2F C ?_ (by assumption) ?_
  | with_reducible refine r_app C ?_ ?_ ?_ ?_
  | with_reducible refine t_typ C ?_ ?_ ?_ ?_ ?_|with_reducible refine t_block C ?_ ?_ ?_ ?_|with_reducible refine c8a C (by assumption) ?_ ?_ ?_ ?_|with_reducible refine c79 C ?_ (by assumption) ?_ ?_
  | with_reducible refine b6m C (pr1 ?_ ?_) ?_ ?_|with_reducible refine b6m C (pr1 ?_) ?_ ?_|with_reducible refine b6m C (pr2 ?_ ?_) ?_ ?_|with_reducible refine b6m C (pr2 ?_) ?_ ?_|with_reducible refine b6m C (pr3 ?_ ?_) ?_ ?_|with_reducible refine b6m C (pr3 ?_) ?_ ?_|with_reducible refine c0t C (pr4 ?_ ?_) ?_ ?_|with_reducible refine c0t C (pr4 ?_) ?_ ?_|with_reducible refine t_nop C (pr5 ?_ ?_) ?_ ?_|with_reducible refine t_nop C (pr5 ?_) ?_ ?_|with_reducible refine t_sig C (pr6 ?_ ?_) ?_ ?_|with_reducible refine t_sig C (pr6 ?_) ?_ ?_|with_reducible refine c0t C (pr7 ?_ ?_) ?_ ?_|with_reducible refine c0t C (pr7 ?_) ?_ ?_|with_reducible refine c0t C (pr8 ?_ ?_) ?_ ?_|with_reducible refine c0t C (pr8 ?_) ?_ ?_
  | with_reducible refine c57 C ?_ (fun _ _=>?_) (fun _=>?_)|with_reducible refine c56 C ?_ (fun _ _=>?_) (fun _=>?_)|with_reducible refine c1F C ?_ (fun _ _=>?_) (fun _=>?_)|with_reducible refine c1K C ?_ (fun _ _=>?_) (fun _=>?_)|with_reducible refine c1L C ?_ (fun _ _=>?_) (fun _=>?_)
  | with_reducible refine qm_ok C ?_ ?_ ?_ ?_|with_reducible refine qm_pan C ?_ ?_|with_reducible refine qn_ok C ?_ ?_ ?_ ?_|with_reducible refine qn_pan C ?_ ?_ (Z9 _ _ _)|with_reducible refine qn_pan C ?_ ?_ (by assumption)|with_reducible refine qp_ok C ?_ ?_ ?_ ?_|with_reducible refine qp_pan C ?_ ?_|with_reducible refine qs_ok C ?_ ?_ ?_ ?_|with_reducible refine qs_pan C ?_ ?_
  | exact trivial
  | omega
  |(simp only[szs,c3Y,a9t];omega)
  |(simp only[szs,c3Y,a9t]at *;omega)
  |(simp only[List.length_append,List.length_cons,List.length_nil];omega)
  | exact Z9 _ _ _
  | exact rfl
  |(simp only[a8V])):P:=x
end Go.Proofs.YtcbjnilpecpbmaaGreatDoor
