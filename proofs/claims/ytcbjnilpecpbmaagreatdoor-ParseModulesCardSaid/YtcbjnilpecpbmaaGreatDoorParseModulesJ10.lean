/- What the functions under ParseModules compute, step by step, as functions in Lean: texts that were built one by one, joined. -/
import Derived.Test.YtcbjnilpecpbmaaGreatDoorParseModulesJ9
set_option maxRecDepth 100000
set_option maxHeartbeats 20000000
set_option linter.unusedSimpArgs false
set_option linter.unusedVariables false
set_option linter.unusedSectionVars false
namespace Go.Proofs.YtcbjnilpecpbmaaGreatDoor
open Go Go.Vm
section
variable {l:List Tok} {size:Int} (C:Cx l size)
include C
theorem b9x {n k0:Nat}:∀(m m' k:Nat) (xs:List Nod),k0<=k->k<=l.length->l.length<m+k->l.length+1<m'+k->szN xs+4*k0<=4*k->S2 (QM l size k0 []) (a2P n size l m xs (k:Int)) (bS (a1n n size l (-1) m' xs true (k:Int)) (fun(l509,a4Y)=>some ((l509,true,a4Y))) some)
 | m+1,m'+2,k,xs,h1,h2,h3,h4,h5=>by
  have hl:=C.hl
  have hx:=a0Z xs
  have ih:=fun{k:Nat} {xs:List Nod}=>b9x (n:=n) (k0:=k0) m (m'+1) k xs
  have fin:∀(zs:List Nod) (q:Int),a1n n size l (-1) (m'+1) zs false q=some (.brk (zs,q)):=fun _ _=>rfl
  rw[a2P.eq_2,a1n.eq_2]
  simp only[SSx C]
  exact two
 | 0,_,_,_,_,_,_,_,_=>by omega
 | _+1,0,_,_,_,_,_,_,_=>by omega
 | _+1,1,_,_,_,_,_,_,_=>by omega
theorem c6l {n k:Nat}(hk:k<=l.length)(hn:20000<=n):S2 (QM l size k []) (a1u n l (k:Int) size) (a1w n l size (k:Int) (-1)):=by
 have hl:=C.hl
 have ih:=fun{k':Nat} {xs:List Nod}=>b9x C (n:=n) (k0:=k) n n k' xs
 unfold a1u a1w
 exact two
theorem b6C {n k0:Nat}(hn:20000<=n):∀(m m' k:Nat) (xs:List Nod),k0<=k->k<=l.length->l.length<m+k->l.length+1<m'+k->szN xs+4*k0<=4*k->S2 (QM l size k0 []) (bS (a1Z n size l m xs (k:Int)) (fun(b54,a5u)=>A8 (u7 [62] l a5u size) (fun at16=>some (.ok (b54,at16))) fun(at17,at18)=>some (.pan (at17,at18))) some) (bS (a0X n size l (-1) m' xs true (k:Int)) (fun(b5e,a4s)=>(o6 [62] l size a4s (-1)).bind fun(r18,at19)=>some ((b5e,r18,at19))) some)
 | m+1,m'+2,k,xs,h1,h2,h3,h4,h5=>by
  have hl:=C.hl
  have hx:=a0Z xs
  have ih:=fun{k:Nat} {xs:List Nod}=>b6C (n:=n) (k0:=k0) hn m (m'+1) k xs
  have pr1:=fun{k:Nat}=>c6l C (n:=n) (k:=k)
  have fin:∀(zs:List Nod) (q:Int),a0X n size l (-1) (m'+1) zs false q=some (.brk (zs,q)):=fun _ _=>rfl
  rw[a1Z.eq_2,a0X.eq_2]
  simp only[SSx C]
  exact two
 | 0,_,_,_,_,_,_,_,_=>by omega
 | _+1,0,_,_,_,_,_,_,_=>by omega
 | _+1,1,_,_,_,_,_,_,_=>by omega
theorem b50 {n k:Nat}(hk:k<=l.length)(hn:20000<=n):S2 (QM l size k []) (Y0 n l (k:Int) size) (a0o n [] l size (k:Int) (-1)):=by
 have hl:=C.hl
 have ih:=fun{k':Nat} {xs:List Nod}=>b6C C (n:=n) (k0:=k) hn n n k' xs
 unfold Y0 a0o
 exact two
theorem c4j {n k0:Nat}{m0:List Nod}(hm:m0.length<=30000)(hn:20000<=n):∀(m m' k:Nat) (xs zs:List Nod),k0<=k->k<=l.length->l.length<m+k->l.length+1<m'+k->szN xs+4*k0<=4*k->zs=m0++xs->S2 (QM l size k0 m0) (a3o n size l m xs (k:Int)) (bS (a1Q n size l (-1) m' zs true (k:Int)) (fun(l519,b0p)=>some ((l519,true,b0p))) some)
 | m+1,m'+2,k,xs,_,h1,h2,h3,h4,h5,rfl=>by
  have hl:=C.hl
  have hx:=a0Z xs
  have ih:=fun{k:Nat} {xs zs:List Nod}=>c4j (n:=n) (k0:=k0) (m0:=m0) hm hn m (m'+1) k xs zs
  have fin:∀(zs:List Nod) (q:Int),a1Q n size l (-1) (m'+1) zs false q=some (.brk (zs,q)):=fun _ _=>rfl
  rw[a3o.eq_2,a1Q.eq_2]
  simp only[SSx C]
  exact two
 | 0,_,_,_,_,_,_,_,_,_,_=>by omega
 | _+1,0,_,_,_,_,_,_,_,_,_=>by omega
 | _+1,1,_,_,_,_,_,_,_,_,_=>by omega
theorem c6f {n k:Nat}{m0:List Nod}(hm:m0.length<=30000)(hk:k<=l.length)(hn:20000<=n):S2 (QM l size k m0) (a1V n l (k:Int) size) (a1W n m0 l size (k:Int) (-1)):=by
 have hl:=C.hl
 have ih:=fun{k':Nat} {xs zs:List Nod}=>c4j C (n:=n) (k0:=k) (m0:=m0) hm hn n n k' xs zs
 unfold a1V a1W
 exact two
theorem sig2 {n k:Nat}(hk:k<=l.length)(hn:20000<=n):S2 (QS l size k) (a0b n l (k:Int) size) (P7 n false l size (k:Int) (-1)):=by
 have hl:=C.hl
 have pr1:=fun{k:Nat}=>b50 C (n:=n) (k:=k)
 have pr2:=fun{k:Nat} {m0:List Nod} (hk) (hm)=>c6f C (n:=n) (k:=k) (m0:=m0) hm hk hn
 unfold a0b P7 Y1
 exact two
theorem func2 {n k:Nat}(hk:k<=l.length)(hn:90000<=n):S2 (QN l size k) (a0T n l (k:Int) size) (P7 n true l size (k:Int) (-1)):=by
 have hl:=C.hl
 have pr1:=fun{k:Nat}=>b50 C (n:=n) (k:=k)
 have pr2:=fun{k:Nat} {m0:List Nod} (hk) (hm)=>c6f C (n:=n) (k:=k) (m0:=m0) hm hk (by omega)
 unfold a0T a0b P7 Y1
 exact two
theorem b9K {A:Type}{Q:A->Nod×Bool×Int×Int->Prop}{n k0:Nat}{m0:List Nod}(hm:m0.length<=12000)(hn:20000<=n){n1:Nod}{s:Str}{F:List Nod×Int->Option A}{O:Rs (List Nod×Int) (o7×Int)->Option A}{G:List Nod×Int->Option (Nod×Bool×Int×Int)}
  (hF:∀(ys:List Nod) (q:Nat),k0<=q->q<=l.length->szN ys+4*k0<=4*q->ys.length<=12000->S2 Q (F (ys,(q:Int))) (G (m0++ys,(q:Int))))
  (hO:∀(x:Nod) (q:Nat) (e:o7),k0<=q->q<=l.length->a2m l size q (-1) e->S2 Q (O (.pan (e,(q:Int)))) (some (x,false,(q:Int),-1))):∀(m m' k:Nat) (xs zs:List Nod),k0<=k->k<=l.length->l.length<m+k->l.length<m'+k->szN xs+4*k0<=4*k->zs=m0++xs->S2 Q (bS (a2T n size l m xs (k:Int)) F O) (bS (a3a n size l n1 (-1) s m' zs (k:Int)) G some)
 | m+1,m'+1,k,xs,_,h1,h2,h3,h4,h5,rfl=>by
  have hl:=C.hl
  have hx:=a0Z xs
  have ih:=fun{k:Nat} {xs zs:List Nod}=>b9K (n:=n) (k0:=k0) (m0:=m0) (n1:=n1) (s:=s) hm hn hF hO m m' k xs zs
  rw[a2T.eq_2,a3a.eq_2]
  exact two
 | 0,_,_,_,_,_,_,_,_,_,_=>by omega
 | _+1,0,_,_,_,_,_,_,_,_,_=>by omega
end
end Go.Proofs.YtcbjnilpecpbmaaGreatDoor
namespace Go.Proofs.YtcbjnilpecpbmaaGreatDoor
open Go Go.Vm
section
variable {l:List Tok} {size:Int} (C:Cx l size)
include C
theorem b9D {A B:Type}{Q:A->B->Prop}{n j k0:Nat}{ts0:List Typ}(hn:20000<=n)(hj:20000<=j){l0:List Nod}{nn:Int}{F:List Nod×Int×Int×List Typ->Option A}{O:Rs (List Nod×Int) (Int×Int)->Option A}{G:List Typ×Int->Option B}{P:List Typ×Bool×Int->Option B}
  (hT:∀(ts:List Typ) (q:Nat),k0<=q->q<=l.length->szT ts+k0<=szT ts0+q->S2 Q (F (l0,(q:Int),nn,ts)) (G (ts,(q:Int)))) (hP:∀(ts:List Typ) (q:Nat),k0<=q->q<=l.length->S2 Q (O (.pan (I7 l size q,(q:Int)))) (P (ts,false,(q:Int)))):∀(m m' k:Nat) (ts:List Typ),k0<=k->k<=l.length->l.length<m+k->l.length<m'+k->szT ts+k0<=szT ts0+k->szT ts0<=30000->S2 Q (bS (a2Q n size l m l0 (k:Int) nn ts) F O) ((o6 [44] l size (k:Int) (-1)).bind fun a=>bS (N7 j (p9.fs j) size l (-1) m' ts a.1 a.2) G P)
 | m+1,m'+1,k,ts,h1,h2,h3,h4,h5,h6=>by
  have hl:=C.hl
  have hx:=b3W ts
  have ih:=fun{k:Nat} {ts:List Typ}=>b9D (n:=n) (j:=j) (k0:=k0) (ts0:=ts0) hn hj hT hP m m' k ts
  have fin:(∀(zs:List Typ) (q:Int),N7 j (p9.fs j) size l (-1) (m'+1) zs false q=some (.brk (zs,q))) /\ ∀(zs:List Typ) (q:Int),N7 j (p9.fs j) size l (-1) (m'+1) zs true q =(F6 j l size q (-1)).bind fun(r5,r6,at7)=>cond (!r6) (some (.out ((zs,false,at7)))) ((app 56 zs ([r5]:List Typ)).bind fun l8=>(o6 [44] l size at7 (-1)).bind fun(r9,at10)=>N7 j (p9.fs j) size l (-1) m' l8 r9 at10):=⟨fun _ _=>rfl,fun _ _=>rfl⟩
  rw[a2Q.eq_2]
  exact two
 | 0,_,_,_,_,_,_,_,_,_=>by omega
 | _+1,0,_,_,_,_,_,_,_,_=>by omega
theorem types_un {j:Nat}(k:Int):O0 (j+2) l size k (-1) =(F6 (j+1) l size k (-1)).bind fun(r5,r6,at7)=>cond (!r6) (some ([],false,at7)) ((app 56 ([]:List Typ) ([r5]:List Typ)).bind fun l8=>(o6 [44] l size at7 (-1)).bind fun a=>bS (N7 (j+1) (p9.fs (j+1)) size l (-1) j l8 a.1 a.2) (fun(b6Z,a4r)=>some ((b6Z,true,a4r))) some):=by
 show M4 (N7 (j+1) (p9.fs (j+1)) size l (-1) (j+1) [] true k) _=_
 rw[N7.eq_2]
 simp only[NFx,cond_true]
 show(F6 (j+1) l size k (-1)).bind _=_
 congr 1
 funext ⟨t,b,q⟩
 cases b
 ·rfl
 ·simp only[Bool.not_true,cond_false,NFx]
theorem c2y {A:Type}{Q:A->Nod×Bool×Int×Int->Prop}{n k0:Nat}{m0:List Nod}(hm:m0.length<=12000)(hn:30000<=n){n1:Nod}{s:Str}{F:List Nod×Int->Option A}{O:Rs (List Nod×Int) (Int×Int)->Option A}{G:List Nod×Int->Option (Nod×Bool×Int×Int)}{P:Nod×Bool×Int->Option (Nod×Bool×Int×Int)}
  (hG:∀(ys:List Nod) (q:Nat),isT l 8 [125] q=true->k0<=q->q+1<=l.length->szN ys+4*k0<=4*q->ys.length<=12000->S2 Q (F (ys,((q+1:Nat):Int))) (G (m0++ys,(q:Int))))
  (hN:∀(ys:List Nod) (q:Nat),isT l 8 [125] q=false->k0<=q->q<=l.length->S2 Q (O (.pan (I7 l size q,(q:Int)))) (G (m0++ys,(q:Int))))
  (hP:∀(x:Nod) (q:Nat),k0<=q->q<=l.length->S2 Q (O (.pan (I7 l size q,(q:Int)))) (P (x,false,(q:Int)))):∀(m m' k:Nat) (xs zs:List Nod),k0<=k->k<=l.length->l.length<m+k->l.length<m'+k->szN xs+4*k0<=4*k->zs=m0++xs->S2 Q (bS (a3m n size l m xs (k:Int)) F O) (bS (a3J n size l n1 (-1) s m' zs (k:Int)) G P)
 | m+1,m'+1,k,xs,_,h1,h2,h3,h4,h5,rfl=>by
  have hl:=C.hl
  have hx:=a0Z xs
  have ih:=fun{k:Nat} {xs zs:List Nod}=>c2y (n:=n) (k0:=k0) (m0:=m0) (n1:=n1) (s:=s) hm hn hG hN hP m m' k xs zs
  obtain⟨j,rfl⟩:∃j,n=j+2:=⟨n-2,by omega⟩
  have fin:=fun k=>types_un C (j:=j) k
  have lp1:=fun{k:Nat} {ts:List Typ} {l0:List Nod} {nn:Int} {F O G P} hT hP h2 h3 h4 h6=>b9D C (A:=A) (Q:=Q) (n:=j+2) (j:=j+1) (k0:=k) (ts0:=ts) (by omega) (by omega) (l0:=l0) (nn:=nn) (F:=F) (O:=O) (G:=G) (P:=P) hT hP (j+2) j k ts (Nat.le_refl _) h2 h3 h4 (Nat.le_refl _) h6
  rw[a3m.eq_2,a3J.eq_2]
  exact two
 | 0,_,_,_,_,_,_,_,_,_,_=>by omega
 | _+1,0,_,_,_,_,_,_,_,_,_=>by omega
theorem c2k {A:Type}{Q:A->Nod×Bool×Int×Int->Prop}{n k0:Nat}(hn:20000<=n){n1:Nod}{s:Str}{F:Int×List Nod->Option A}{O:Rs (Nod×Int) (Int×Int)->Option A}{G:List Nod×Int->Option (Nod×Bool×Int×Int)}{P:Nod×Bool×Int×Int->Option (Nod×Bool×Int×Int)}
  (hF:∀(ys:List Nod) (q:Nat),k0<=q->q<=l.length->szN ys+4*k0<=4*q->ys.length<=12000->S2 Q (F ((q:Int),ys)) (G (ys,(q:Int))))
  (hP:∀(x:Nod) (q:Nat),k0<=q->q<=l.length->S2 Q (O (.pan (I7 l size q,(q:Int)))) (P (x,false,(q:Int),-1))):∀(m m' k:Nat) (xs:List Nod),k0<=k->k<=l.length->l.length<m+k->l.length<m'+k->szN xs+4*k0<=4*k->S2 Q (bS (a10 n size l m (k:Int) xs) F O) (bS (a14 n size l n1 (-1) s m' xs (k:Int)) G P)
 | m+1,m'+1,k,xs,h1,h2,h3,h4,h5=>by
  have hl:=C.hl
  have hx:=a0Z xs
  have ih:=fun{k:Nat} {xs:List Nod}=>c2k (n:=n) (k0:=k0) (n1:=n1) (s:=s) hn hF hP m m' k xs
  have pr1:=fun{k:Nat}=>c6l C (n:=n) (k:=k)
  rw[a10.eq_2,a14.eq_2]
  exact two
 | 0,_,_,_,_,_,_,_,_=>by omega
 | _+1,0,_,_,_,_,_,_,_=>by omega
theorem c6O {A:Type}{Q:A->Nod×Bool×Int×Int->Prop}{n k0:Nat}{xs0:List Nod}(hn:20000<=n){n1:Nod}{s:Str}{F:Int×List Nod->Option A}{O:Rs (Nod×Int) (Int×Int)->Option A}{G:List Nod×Int×Int->Option (Nod×Bool×Int×Int)}{P:Nod×Bool×Int×Int->Option (Nod×Bool×Int×Int)}
  (hN:∀(ys:List Nod) (q:Nat),k0<=q->q<=l.length->szN ys+4*k0<=szN xs0+4*q->S2 Q (F ((q:Int),ys)) (G (ys,(q:Int),-1)))
  (hP:∀(x:Nod) (q:Nat),k0<=q->q<=l.length->S2 Q (O (.pan (I7 l size q,(q:Int)))) (P (x,false,(q:Int),-1))):∀(m m' k:Nat) (xs:List Nod),k0<=k->k<=l.length->l.length<m+k->l.length<m'+k->szN xs+4*k0<=szN xs0+4*k->szN xs0<=30000->S2 Q (bS (a1A n size l m (k:Int) xs) F O) (bS (a1C n size l n1 s m' xs (k:Int) (-1)) G P)
 | m+1,m'+1,k,xs,h1,h2,h3,h4,h5,h6=>by
  have hl:=C.hl
  have hx:=a0Z xs
  have ih:=fun{k:Nat} {xs:List Nod}=>c6O (n:=n) (k0:=k0) (xs0:=xs0) (n1:=n1) (s:=s) hn hN hP m m' k xs
  have pr6:=fun{k:Nat} hk=>sig2 C (n:=n) (k:=k) hk hn
  rw[a1A.eq_2,a1C.eq_2]
  exact two
 | 0,_,_,_,_,_,_,_,_,_=>by omega
 | _+1,0,_,_,_,_,_,_,_,_=>by omega
theorem c7Q {n k:Nat}(hn:20000<=n)(hT:isT l 9 [112,114,111,116,111,99,111,108] k=true):S2 (QP l size k) (a1L n l (k:Int) size) (a1O n ⟨5,[],0,(⟨0,[],0,[]⟩:Typ),[],[],I7 l size k⟩ l size ((k+1:Nat):Int) (-1)):=by
 have hl:=C.hl
 have hk:=a2b hT
 have lp1:=fun{A:Type} {Q:A->Nod×Bool×Int×Int->Prop} {k0:Nat} {n1:Nod} {s:Str} {F O G P} hF hP h2 h3 h4 (_:True)=>c2k C (A:=A) (Q:=Q) (n:=n) (k0:=k0) hn (n1:=n1) (s:=s) (F:=F) (O:=O) (G:=G) (P:=P) hF hP n n k0 [] (Nat.le_refl _) h2 h3 h4 (by simp only[szs];omega)
 have lp2:=fun{A:Type} {Q:A->Nod×Bool×Int×Int->Prop} {k0:Nat} {xs0:List Nod} {n1:Nod} {s:Str} {F O G P} hF hP h2 h3 h4 h6=>c6O C (A:=A) (Q:=Q) (n:=n) (k0:=k0) (xs0:=xs0) hn (n1:=n1) (s:=s) (F:=F) (O:=O) (G:=G) (P:=P) hF hP n n k0 xs0 (Nat.le_refl _) h2 h3 h4 (Nat.le_refl _) h6
 unfold a1L a1O
 exact two
theorem c2j {A:Type}{Q:A->Nod×Bool×Int×Int->Prop}{n k0:Nat}{xs0:List Nod}(hn:20000<=n){n1:Nod}{s:Str}{t1:Typ}{F:Int×List Nod->Option A}{O:Rs (Nod×Int) (o7×Int)->Option A}{G:List Nod×Int->Option (Nod×Bool×Int×Int)}{P:Nod×Bool×Int×Int->Option (Nod×Bool×Int×Int)}
  (hN:∀(ys:List Nod) (q:Nat),k0<=q->q<=l.length->szN ys+4*k0<=szN xs0+4*q->S2 Q (F ((q:Int),ys)) (G (ys,(q:Int))))
  (hO:∀(x:Nod) (q:Nat) (e:o7),k0<=q->q<=l.length->a2m l size q (-1) e->S2 Q (O (.pan (e,(q:Int)))) (P (x,false,(q:Int),-1))):∀(m m' k:Nat) (xs:List Nod),k0<=k->k<=l.length->l.length<m+k->l.length<m'+k->szN xs+4*k0<=szN xs0+4*k->szN xs0<=30000->S2 Q (bS (a2S n size l m (k:Int) xs) F O) (bS (a2p n size l n1 (-1) s t1 m' xs (k:Int)) G P)
 | m+1,m'+1,k,xs,h1,h2,h3,h4,h5,h6=>by
  have hl:=C.hl
  have hx:=a0Z xs
  have ih:=fun{k:Nat} {xs:List Nod}=>c2j (n:=n) (k0:=k0) (xs0:=xs0) (n1:=n1) (s:=s) (t1:=t1) hn hN hO m m' k xs
  rw[a2S.eq_2,a2p.eq_2]
  exact two
 | 0,_,_,_,_,_,_,_,_,_=>by omega
 | _+1,0,_,_,_,_,_,_,_,_=>by omega
theorem c6F {A:Type}{Q:A->Nod×Bool×Int×Int->Prop}{n k0:Nat}{xs0:List Nod}(hn:90000<=n){n1:Nod}{s:Str}{t1:Typ}{F:Int×List Nod->Option A}{O:Rs (Nod×Int) (o7×Int)->Option A}{G:List Nod×Int×Int->Option (Nod×Bool×Int×Int)}{P:Nod×Bool×Int×Int->Option (Nod×Bool×Int×Int)}
  (hN:∀(ys:List Nod) (q:Nat),k0<=q->q<=l.length->szN ys+4*k0<=szN xs0+4*q->S2 Q (F ((q:Int),ys)) (G (ys,(q:Int),-1)))
  (hO:∀(x:Nod) (q:Nat) (pl:Int) (e:o7),k0<=q->q<=l.length->a2m l size q pl e->S2 Q (O (.pan (e,(q:Int)))) (P (x,false,(q:Int),pl))):∀(m m' k:Nat) (xs:List Nod),k0<=k->k<=l.length->l.length<m+k->l.length<m'+k->szN xs+4*k0<=szN xs0+4*k->szN xs0<=30000->S2 Q (bS (a2o n size l m (k:Int) xs) F O) (bS (a2q n size l n1 s t1 m' xs (k:Int) (-1)) G P)
 | m+1,m'+1,k,xs,h1,h2,h3,h4,h5,h6=>by
  have hl:=C.hl
  have hx:=a0Z xs
  have ih:=fun{k:Nat} {xs:List Nod}=>c6F (n:=n) (k0:=k0) (xs0:=xs0) (n1:=n1) (s:=s) (t1:=t1) hn hN hO m m' k xs
  have pr4:=fun{k:Nat} hk=>func2 C (n:=n) (k:=k) hk hn
  have hO:=fun(x:Nod) (q:Nat) (e:o7) {pl:Int} h1 h2 h3=>hO x q pl e h1 h2 h3
  rw[a2o.eq_2,a2q.eq_2]
  exact two
 | 0,_,_,_,_,_,_,_,_,_=>by omega
 | _+1,0,_,_,_,_,_,_,_,_=>by omega
theorem extend2 {n k:Nat}(hn:90000<=n)(hT:isT l 9 [101,120,116,101,110,100] k=true):S2 (QN l size k) (a2F n l (k:Int) size) (a2J n ⟨6,[],0,(⟨0,[],0,[]⟩:Typ),[],[],I7 l size k⟩ l size ((k+1:Nat):Int) (-1)):=by
 have hl:=C.hl
 have hk:=a2b hT
 have pr2:=fun{k:Nat} {m0:List Nod} (hk) (hm)=>c6f C (n:=n) (k:=k) (m0:=m0) hm hk (by omega)
 have lp1:=fun{A:Type} {Q:A->Nod×Bool×Int×Int->Prop} {k0:Nat} {xs0:List Nod} {n1:Nod} {s:Str} {t1:Typ} {F O G P} hN hO h2 h3 h4 h6=>c2j C (A:=A) (Q:=Q) (n:=n) (k0:=k0) (xs0:=xs0) (by omega) (n1:=n1) (s:=s) (t1:=t1) (F:=F) (O:=O) (G:=G) (P:=P) hN hO n n k0 xs0 (Nat.le_refl _) h2 h3 h4 (Nat.le_refl _) h6
 have lp2:=fun{A:Type} {Q:A->Nod×Bool×Int×Int->Prop} {k0:Nat} {xs0:List Nod} {n1:Nod} {s:Str} {t1:Typ} {F O G P} hN hO h2 h3 h4 h6=>c6F C (A:=A) (Q:=Q) (n:=n) (k0:=k0) (xs0:=xs0) hn (n1:=n1) (s:=s) (t1:=t1) (F:=F) (O:=O) (G:=G) (P:=P) hN hO n n k0 xs0 (Nat.le_refl _) h2 h3 h4 (Nat.le_refl _) h6
 unfold a2F a2J
 exact two
end
end Go.Proofs.YtcbjnilpecpbmaaGreatDoor
