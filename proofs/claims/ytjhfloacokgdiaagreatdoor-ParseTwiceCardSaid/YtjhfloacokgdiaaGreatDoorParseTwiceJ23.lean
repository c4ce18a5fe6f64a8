/- Texts of ParseTwice, joined. -/
import Derived.Test.YtjhfloacokgdiaaGreatDoorParseTwiceJ22
set_option maxRecDepth 100000
set_option maxHeartbeats 20000000
set_option linter.all false
namespace Go.Proofs.YtjhfloacokgdiaaGreatDoor
open Go Go.Vm Pr
variable {a size:Int} {vs:List (List WK)} {xs:List Nod} {l:List Tok} {r u v w:List WK} {k n:Nat} {b c x:Nod} {s:Str} {t:Typ}
theorem stmts_lp {rest:List WK}(hv:V3 SH xs vs):∀(m k:Nat) (acc:List Nod),At l k (vs.flatten ++((8,[125])::rest))->200000+40*(l.length-k)+30<=n->xs.length<m->acc.length+xs.length<=9000->S1 (RL_ mkB l (acc++xs) rest) (X3 n (j3.fs n) size l m acc k):=by
 induction hv with
 | nil =>
  intro m k acc h hn hm ha;obtain⟨m,rfl⟩:∃q,m=q+1:=⟨m-1,by omega⟩
  have h:At l k ((8,[125])::rest):=h;have hk:=h.le;rw[X3.eq_2];exact rdk
 | @cons x w xs vs hg hv ih =>
  intro m k acc h hn hm ha;obtain⟨m,rfl⟩:∃q,m=q+1:=⟨m-1,by omega⟩
  simp only[List.length_cons]at hm ha;rw[List.flatten_cons,List.append_assoc]at h;have hk:=h.le;obtain⟨g,g1,g2⟩:=hg;have g1:=g1 (vs.flatten ++((8,[125])::rest));have hst:NSt (vs.flatten ++((8,[125])::rest)):=by
   cases hv with
   | nil=>rfl
   | @cons x2 w2 xs vs h2 h3=>rw[List.flatten_cons,List.append_assoc];exact h2.2.2 _
  have ih:=fun k acc h hl hn=>ih m k acc h hn (by omega) hl;rw[X3.eq_2];exact rdk
theorem r_sts {A:Type}{Q:A->Prop}{f:List Nod×Int->Option A}{e:o6×Int->Option A}(h:At l k (vs.flatten ++((8,[125])::r)))(hv:V3 SH xs vs)(hx:xs.length<=8000)(hn:200000+40*(l.length-k)+32<=n)(g:∀ys (q:Nat),ers ys=ers xs->ys.length=xs.length->At l q r->q<=l.length/\l.length<=3000->S1 Q (f (ys,(q:Int)))):S1 Q (p9 ((j3.fs n).M4 l k size) f e):=by
 obtain⟨n,rfl⟩:∃q,n=q+1:=⟨n-1,by omega⟩
 refine c4N (xs:=xs) (rest:=r) ?_ g;have ls1:=fun{k:Nat} (h:At l k (vs.flatten ++((8,[125])::r))) (hn:200000+40*(l.length-k)+30<=n)=>stmts_lp (size:=size) (n:=n) hv n k [] h hn (by omega) (by simp only[List.length_nil];omega);show S1 _ (a0q n _ l k size);unfold a0q;simp only[NF];exact r_lb (ls1 h (by omega)) fun _ _ h1 _ h2 _=>r_fin h2 h1
theorem rb_block (h:V3 SH xs vs)(hx:xs.length<=8000):RBl ⟨20,[],0,zT,[],xs,a⟩ ((8,[123]) ::(vs.flatten++[(8,[125])])):=⟨a5A fun l size n k rest A hP hk hn=>by
 simp only[apC]at A;show S1 _ (a1v n _ l k size);unfold a1v;refine b8g A.hl A.hk fun _=>c06 A.hl A.hk (w_T A fun A hk=>r_sts A h hx (by omega) fun _ _ h1 _ h2 _=>c4M h2 (er5 h1)),_,rfl⟩
theorem ra_clos {V:Int->Str->Prop}{ps ss:List Nod}{us:List (List WK)}{b:Int}(ht:t=uT∨GT V false t)(hz:t.sz<=40000)(h:V3 (RM V) ps us)(hp:ps.length<=8000)(g:V3 SH ss vs)(hs:ss.length<=8000):RA ⟨63,[],0,t,[],ps++[⟨20,[],0,zT,[],ss,b⟩],a⟩ ((8,[123]) ::(cw us ++(rsw t ++((9,[105,110]) ::(vs.flatten++[(8,[125])]))))):=a5A fun l size n k rest A hP hk hn=>by
 simp only[apC]at A;obtain⟨n,rfl⟩:∃q,n=q+1:=⟨n-1,by omega⟩
 have ls1:=fun{k:Nat} {r:List WK} (A:At l k (cw us++r))=>show S1 (RL_ mkR l ps r) (X7 n l k size)from by
  obtain⟨ys,e,he,_⟩:=b9D (size:=size) (n:=n) h hp A.hl A.hk A.K (by omega);exact⟨_,e,ys,_,rfl,he,A.ap⟩
 have lt1:S1 (RN_ l ⟨63,[],0,t,[],ps++[⟨20,[],0,zT,[],ss,b⟩],a⟩ rest) ((j3.fs (n+1)).Q8 l k size):=by
  show S1 _ (a0Y n _ l k size);unfold a0Y;refine b8g A.hl A.hk fun _=>b8g A.hl A.hk fun _=>c06 A.hl A.hk (w_T A fun A1 h1=>c4N (ls1 A1) fun _ _ e1 e2 A2 h2=>r_res A2 ht hz (by omega) ⟨⟨rfl,.inl rfl⟩,rfl⟩ fun _ A3 h3=>b5z A3.hl A3.hk (w_T A3 fun A4 h4=>r_sts A4 g hs (by
   have a1:=A.wl;have a2:=A4.wl;simp only[List.length_append,List.length_cons]at a1 a2;omega) fun _ _ e3 _ A5 _=>?_))
  exact t_app (by omega) (by simp) (by decide) (c4M A5 (er5 (c0d e1 (b60 (er5 e3)))))
 show S1 _ (D7 (n+1) _ l k size);unfold D7;have lt1:=fun(h:At l k ((8,[123]) ::(cw us ++(rsw t ++((9,[105,110]) ::(vs.flatten ++((8,[125])::rest)))))))=>lt1;exact rdk
theorem rl_letu (h:RE x w):RX 26 T1 j3.K6 ⟨21,s,0,zT,[],[x],a⟩ ((9,[108,101,116]) ::(1,s) ::(8,[61]) ::(w++[(8,[59])])):=a5A fun l size n k rest h hP hk hn=>by
 simp only[apC]at h;show S1 _ (M5 n _ l k size);unfold M5;exact rdk
theorem rl_lett {V:Int->Str->Prop}(ht:GT V false t)(hz:t.sz<=40000)(h:RE x w):RX 26 T1 j3.K6 ⟨21,s,0,t,[],[x],a⟩ ((9,[108,101,116]) ::(1,s) ::(8,[58]) ::(W t ++((8,[61]) ::(w++[(8,[59])])))):=a5A fun l size n k rest h hP hk hn=>by
 simp only[apC]at h;show S1 _ (M5 n _ l k size);unfold M5;exact rdk
theorem rl_varu (h:RE x w):RX 26 T1 j3.K6 ⟨21,s,1,zT,[],[x],a⟩ ((9,[118,97,114]) ::(1,s) ::(8,[61]) ::(w++[(8,[59])])):=a5A fun l size n k rest h hP hk hn=>by
 simp only[apC]at h;show S1 _ (M5 n _ l k size);unfold M5;exact rdk
theorem rl_vart {V:Int->Str->Prop}(ht:GT V false t)(hz:t.sz<=40000)(h:RE x w):RX 26 T1 j3.K6 ⟨21,s,1,t,[],[x],a⟩ ((9,[118,97,114]) ::(1,s) ::(8,[58]) ::(W t ++((8,[61]) ::(w++[(8,[59])])))):=a5A fun l size n k rest h hP hk hn=>by
 simp only[apC]at h;show S1 _ (M5 n _ l k size);unfold M5;exact rdk
theorem rl_var0 {V:Int->Str->Prop}(ht:GT V false t)(hz:t.sz<=40000):RX 26 T1 j3.K6 ⟨21,s,1,t,[],[],a⟩ ((9,[118,97,114]) ::(1,s) ::(8,[58]) ::(W t++[(8,[59])])):=a5A fun l size n k rest h hP hk hn=>by
 simp only[apC]at h;show S1 _ (M5 n _ l k size);unfold M5;exact rdk
theorem rs_let (h:RX 26 T1 j3.K6 x ((9,[108,101,116])::w)):RSt x ((9,[108,101,116])::w):=a5A fun l size n k rest h hP hk hn=>by
 have A:=h;simp only[apC]at h;show S1 _ (A9 n _ l k size);unfold A9;exact rdk
theorem c4S (h:RX 26 T1 j3.K6 x ((9,[118,97,114])::w)):RSt x ((9,[118,97,114])::w):=a5A fun l size n k rest h hP hk hn=>by
 have A:=h;simp only[apC]at h;show S1 _ (A9 n _ l k size);unfold A9;exact rdk
theorem rs_if (h:RX 28 NSt j3.J6 x ((9,[105,102])::w)):RSt x ((9,[105,102])::w):=a5A fun l size n k rest h hP hk hn=>by
 have A:=h;simp only[apC]at h;show S1 _ (A9 n _ l k size);unfold A9;exact rdk
theorem rs_match (h:RX 26 T1 j3.U2 x ((9,[109,97,116,99,104])::w)):RSt x ((9,[109,97,116,99,104])::w):=a5A fun l size n k rest h hP hk hn=>by
 have A:=h;simp only[apC]at h;show S1 _ (A9 n _ l k size);unfold A9;exact rdk
theorem rs_throw (h:RE x w) :RSt ⟨29,[],0,zT,[],[x],a⟩ ((9,[116,104,114,111,119]) ::(w++[(8,[59])])):=a5A fun l size n k rest h hP hk hn=>by
 simp only[apC]at h;show S1 _ (A9 n _ l k size);unfold A9;have h1:=h.up;have hk1:=h1.le;exact rdk
theorem rs_ret0 :RSt ⟨28,[],0,zT,[],[],a⟩ [(9,[114,101,116,117,114,110]),(8,[59])]:=a5A fun l size n k rest h hP hk hn=>by
 simp only[apC]at h;show S1 _ (A9 n _ l k size);unfold A9;have h1:=h.up;have hk1:=h1.le;exact rdk
theorem rs_while (h:RE x w)(g:RBl b v):RSt ⟨25,[],0,zT,[],[x,b],a⟩ ((9,[119,104,105,108,101]) ::(w++v)):=a5A fun l size n k rest h hP hk hn=>by
 simp only[apC]at h;show S1 _ (A9 n _ l k size);unfold A9;have h1:=h.up;have hk1:=h1.le;exact rdk
theorem rs_defer (g:RBl b v):RSt ⟨31,[],0,zT,[],[b],a⟩ ((9,[100,101,102,101,114])::v):=a5A fun l size n k rest h hP hk hn=>by
 simp only[apC]at h;show S1 _ (A9 n _ l k size);unfold A9;exact rdk
theorem rs_do (h:RBl x w)(g:RBl b v):RSt ⟨30,s,0,zT,[],[x,b],a⟩ ((9,[100,111]) ::(w ++((9,[99,97,116,99,104]) ::(1,s)::v))):=a5A fun l size n k rest h hP hk hn=>by
 simp only[apC]at h;show S1 _ (A9 n _ l k size);unfold A9;exact rdk
theorem rs_ret1 (h:RE x w)(hh:∀r,nx (w++r) 8 [59]=false) :RSt ⟨28,[],0,zT,[],[x],a⟩ ((9,[114,101,116,117,114,110]) ::(w++[(8,[59])])):=a5A fun l size n k rest h hP hk hn=>by
 simp only[apC]at h;show S1 _ (A9 n _ l k size);unfold A9;have h1:=h.up;have hk1:=h1.le;have hh:=hh ((8,[59])::rest);exact rdk
def KWL:List Str:=[[108,101,116],[118,97,114],[105,102],[109,97,116,99,104],[100,101,102,101,114],[119,104,105,108,101],[114,101,116,117,114,110],[116,104,114,111,119],[100,111]]
def EH (w:List WK):Prop:=∃p r,w=p::r/\(p.1≠9∨p.2 ∉ KWL)
theorem c6w (hl:l.length<=3000)(hk:k<=l.length){p:WK}(K:kt (l.drop k)=p::r)(h:p.1≠9∨p.2 ∉ KWL):∃u,u ∉ KWL/\((C9 0 9 [] l k size).bind fun r4=>cond r4 ((idx' l (k:Int)).bind fun x5=>some x5.text) (some []))=some u:=by
 have hk1:=Y1 K;by_cases h9:p.1=9
 ·refine⟨p.2,h.resolve_left fun g=>g h9,?_⟩;rw[a2Q hl hk,ikY K (show nk (p::r) 9=true from decide_eq_true h9)];simp only[NF,a4Y (show k<l.length from hk1),a6n K]
 ·refine⟨[],by decide,?_⟩;rw[a2Q hl hk,ikF K (show nk (p::r) 9=false from decide_eq_false h9)];simp only[NF]
theorem rs_sole (h:RE x w)(hh:EH w):RSt ⟨23,[],0,zT,[],[x],a⟩ (w++[(8,[59])]):=by
 intro l size n k rest hl hk K hr hn;obtain⟨n,rfl⟩:∃q,n=q+1:=⟨n-1,by omega⟩
 have K:kt (l.drop k)=w ++((8,[59])::rest):=by rw[K];simp
 obtain⟨y,e,he⟩:=h hl hk K (a7A (.inr (.inr (.inl rfl)))) (show _<=n by omega) (size:=size);have hk1:=a0G K hk;have K1:=X4 K;obtain⟨p,r,rfl,hp⟩:=hh;obtain⟨u,hu,eu⟩:=c6w (size:=size) hl hk (show _=p ::(r ++((8,[59])::rest))from K) hp;simp only[KWL,List.mem_cons,List.not_mem_nil,or_false,not_or]at hu;obtain⟨u1,u2,u3,u4,u5,u6,u7,u8,u9⟩:=hu;refine⟨⟨23,[],0,zT,[],[y],y.at_⟩,?_,er5 (b60 he)⟩;have hq:k+(p::r).length+1=k+(p::r++[(8,[59])]).length:=by simp only[lnC];omega
 show A9 n (j3.fs n) l k size=_;unfold A9;rw[eu];simp only[NF,b6Y,decide_eq_false u1,decide_eq_false u2,decide_eq_false u3,decide_eq_false u4,decide_eq_false u5,decide_eq_false u6,decide_eq_false u7,decide_eq_false u8,decide_eq_false u9];rw[e];simp only[NF,a3Y hl hk1,isF (kd:=8) (s:=[61]) K1 rfl,a1R hl hk1,isY K1 a3A,hq]
theorem c4H (h:PLC x):∀(m:Nat) (y:Nod),y.er=x.er->x.sz<m -> ∃z,a2S n m y=some z/\z.op=54:=by
 induction h with
 | @nm x hx =>
  intro m y he hm;obtain⟨m,rfl⟩:∃q,m=q+1:=⟨m-1,by omega⟩
  have h1:=(a4D he).1;refine⟨y,?_,h1.trans hx⟩;rw[a2S.eq_2,a1t (by rw[h1,hx];decide)];rfl
 | @fld s n a t ts x hx ih =>
  intro m y he hm;obtain⟨m,rfl⟩:∃q,m=q+1:=⟨m-1,by omega⟩
  obtain⟨h1,_,_,_,_,h6⟩:=a4D he;rw[nsz,a4V]at hm;rcases hy:y.l with _ |⟨w,_ |⟨w2,r⟩⟩
  ·rw[hy]at h6;simp[ers]at h6
  ·rw[hy]at h6;have h7:w.er=x.er:=by simpa [ers]using h6
   rw[a2S.eq_2,a0z h1];simp only[NF,hy,show idx' [w] 0=some w from a0k (l:=[w]) (i:=0) Nat.zero_lt_one];exact ih m w h7 (by omega)
  ·rw[hy]at h6;simp[ers]at h6
theorem c7G {y:Nod}(h:RE x w)(hp:PLC x)(hz:x.sz<=100000)(g:RE y v)(hh:EH w):RSt ⟨22,[],0,zT,[],[x,y],a⟩ (w ++((8,[61]) ::(v++[(8,[59])]))):=by
 intro l size n k rest hl hk K hr hn;obtain⟨n,rfl⟩:∃q,n=q+1:=⟨n-1,by omega⟩
 have K:kt (l.drop k)=w ++((8,[61]) ::(v ++((8,[59])::rest))):=by rw[K];simp
 obtain⟨y1,e,he⟩:=h hl hk K (a7A (.inr (.inr (.inr (.inr rfl))))) (show _<=n by omega) (size:=size);have hk1:=a0G K hk;have K1:=X4 K;have hk2:=Y1 K1;have K2:=Z7 K1;obtain⟨y2,e2,he2⟩:=g hl hk2 K2 (a7A (.inr (.inr (.inl rfl)))) (show _<=n by omega) (size:=size);have hk3:=a0G K2 hk2;have K3:=X4 K2;obtain⟨z,ez,hz2⟩:=c4H (n:=n) hp n y1 he (by omega);have ep:a4Q n y1=some true:=by unfold a4Q;rw[ez];simp only[NF];rw[a0z hz2]
 obtain⟨p,r,rfl,hp⟩:=hh;obtain⟨u,hu,eu⟩:=c6w (size:=size) hl hk (show _=p ::(r ++((8,[61]) ::(v ++((8,[59])::rest))))from K) hp;simp only[KWL,List.mem_cons,List.not_mem_nil,or_false,not_or]at hu;obtain⟨u1,u2,u3,u4,u5,u6,u7,u8,u9⟩:=hu;refine⟨⟨22,[],0,zT,[],[y1,y2],y1.at_⟩,?_,er5 (ers2 he he2)⟩;have hq:k+(p::r).length+1+v.length+1=k+(p::r ++((8,[61]) ::(v++[(8,[59])]))).length:=by simp only[lnC];omega
 show A9 n (j3.fs n) l k size=_;unfold A9;rw[eu];simp only[NF,b6Y,decide_eq_false u1,decide_eq_false u2,decide_eq_false u3,decide_eq_false u4,decide_eq_false u5,decide_eq_false u6,decide_eq_false u7,decide_eq_false u8,decide_eq_false u9];rw[e];simp only[NF,a3Y hl hk1,isY K1 a3A,ep,H6 (show k+(p::r).length<=1000000000000 by omega)];rw[e2];simp only[NF];rw[a3Z (by simp) (by simp) (by omega)];simp only[NF,a1R hl hk3,isY K3 a3A,hq];rfl
abbrev RC:=RX 28 NSt j3.J6
theorem rc_if2 (h:RE x w)(g:RBl b v):RC ⟨24,[],0,zT,[],[x,b],a⟩ ((9,[105,102]) ::(w++v)):=a5A fun l size n k rest h hP hk hn=>by
 simp only[apC]at h;show S1 _ (M7 n _ l k size);unfold M7;exact rdk
theorem rc_if3 (h:RE x w)(g:RBl b v)(f:RBl c u):RC ⟨24,[],0,zT,[],[x,b,c],a⟩ ((9,[105,102]) ::(w ++(v ++((9,[101,108,115,101])::u)))):=a5A fun l size n k rest h hP hk hn=>by
 simp only[apC]at h;show S1 _ (M7 n _ l k size);unfold M7;have nb:nx (u++rest) 9 [105,102]=false:=by obtain⟨_,q,rfl⟩:=f;rfl
 exact rdk
theorem rc_if4 (h:RE x w)(g:RBl b v)(f:RC c ((9,[105,102])::u)):RC ⟨24,[],0,zT,[],[x,b,c],a⟩ ((9,[105,102]) ::(w ++(v ++((9,[101,108,115,101]) ::(9,[105,102])::u)))):=a5A fun l size n k rest h hP hk hn=>by
 simp only[apC]at h;show S1 _ (M7 n _ l k size);unfold M7;have lt1:=fun{k:Nat} (h:At l k ((9,[105,102]) ::(u++rest))) (hn:200000+40*(l.length-k)+28<=n)=>of_rx (size:=size) f (rest:=rest) h hP hn;exact rdk
def RAm (x:Nod)(w:List WK):Prop:=∃p b u v a,x =⟨27,[],0,zT,[],[p,b],a⟩/\RT p u/\RBl b v/\w =(9,[99,97,115,101]) ::(u++v)
theorem match_lp {rest:List WK}(hv:V3 RAm xs vs):∀(m k:Nat) (acc:List Nod),At l k (vs.flatten ++((8,[125])::rest))->200000+40*(l.length-k)<=n->xs.length<m->acc.length+xs.length<=9000->S1 (RL_ mkC l (acc++xs) ((8,[125])::rest)) (a0K n (j3.fs n) size l m k acc):=by
 induction hv with
 | nil =>
  intro m k acc h hn hm ha;obtain⟨m,rfl⟩:∃q,m=q+1:=⟨m-1,by omega⟩
  have h:At l k ((8,[125])::rest):=h;have hk:=h.le;rw[a0K.eq_2];exact rdk
 | @cons x w xs vs hg hv ih =>
  intro m k acc h hn hm ha;obtain⟨m,rfl⟩:∃q,m=q+1:=⟨m-1,by omega⟩
  obtain⟨p,b,u,v,a,rfl,h1,h2,rfl⟩:=hg;simp only[List.length_cons]at hm ha;simp only[List.flatten_cons,List.append_assoc,List.cons_append]at h;have hk:=h.le;have hu:=h.up;have hku:=hu.le;have nb:nx (v ++(vs.flatten ++((8,[125])::rest))) 8 [40]=false:=(ne_blk h2).1.2;have ih:=fun k acc h hl hn=>ih m k acc h hn (by omega) hl;rw[a0K.eq_2];exact rdk
theorem rm_match (h:RE x w)(g:V3 RAm xs vs)(hx:xs.length<=8000):RX 26 T1 j3.U2 ⟨26,[],0,zT,[],x::xs,a⟩ ((9,[109,97,116,99,104]) ::(w ++((8,[123]) ::(vs.flatten++[(8,[125])])))):=a5A fun l size n k rest A hP hk hn=>by
 simp only[apC]at A;have ls1:=fun{k:Nat} {acc:List Nod} (h:At l k (vs.flatten ++((8,[125])::rest))) (hn:200000+40*(l.length-k)<=n) (ha:acc.length<=10)=>match_lp (size:=size) (n:=n) g n k acc h hn (by omega) (by omega);show S1 _ (a1w n _ l k size);unfold a1w;exact rdk
end Go.Proofs.YtjhfloacokgdiaaGreatDoor
namespace Go.Proofs.YtjhfloacokgdiaaGreatDoor
open Go Go.Vm Pr
variable {α:Type} {vs:List (List WK)} {a w:List WK} {x y:Nod} {t:Typ}
theorem a1u {o:Int}{s:Str}{n:Int}{ts:List Typ}{l:List Nod}{a:Int}(h:y.er =(⟨o,s,n,t,ts,l,a⟩:Nod).er):∃l' a',y =⟨o,s,n,t,ts,l',a'⟩/\ers l'=ers l:=by
 obtain⟨h1,h2,h3,h4,h5,h6⟩:=a4D h;obtain⟨o',s',n',t',ts',l',a'⟩:=y;simp only at h1 h2 h3 h4 h5 h6;subst h1;subst h2;subst h3;subst h4;subst h5;exact⟨l',a',rfl,h6⟩
theorem a2f {l:List Nod}(h:ers l=ers []):l=[]:=by cases l with
 | nil=>rfl
 | cons a r=>simp[ers]at h
theorem a6r {l r:List Nod}(h:ers l=ers (x::r)):∃x' r',l=x'::r'/\x'.er=x.er/\ers r'=ers r:=by cases l with
 | nil=>simp[ers]at h
 | cons a q=>simp only[ers,List.cons.injEq]at h;exact⟨a,q,rfl,h.1,h.2⟩
theorem a7U {l:List Nod}(h:ers l=ers [x]):∃x',l=[x']/\x'.er=x.er:=by
 obtain⟨x',r,rfl,h1,h2⟩:=a6r h;cases a2f h2;exact⟨x',rfl,h1⟩
theorem b61 {l:List Nod}(h:ers l=ers [x,y]):∃x' y',l=[x',y']/\x'.er=x.er/\y'.er=y.er:=by
 obtain⟨x',r,rfl,h1,h2⟩:=a6r h;obtain⟨y',rfl,h3⟩:=a7U h2;exact⟨x',y',rfl,h1,h3⟩
theorem ers_3 {l:List Nod}{z:Nod}(h:ers l=ers [x,y,z]):∃x' y' z',l=[x',y',z']/\x'.er=x.er/\y'.er=y.er/\z'.er=z.er:=by
 obtain⟨x',r,rfl,h1,h2⟩:=a6r h;obtain⟨y',z',rfl,h3,h4⟩:=b61 h2;exact⟨x',y',z',rfl,h1,h3,h4⟩
theorem b2m {q:List Nod}:∀{p l:List Nod},ers l=ers (p++q) -> ∃p' q',l=p'++q'/\ers p'=ers p/\ers q'=ers q
 | [],l,h=>⟨[],l,rfl,rfl,h⟩
 | x::p,l,h=>by
  obtain⟨x',r,rfl,h1,h2⟩:=a6r h;obtain⟨p',q',rfl,h3,h4⟩:=b2m h2;exact⟨x'::p',q',rfl,by simp only[ers,h1,h3],h4⟩
def PE (P:Nod->List WK->Prop)(x:Nod)(w:List WK):Prop:=∀y,y.er=x.er->P y w
theorem a3E {P:Nod->List WK->Prop}{l:List Nod}(h:V3 (PE P) l vs):∀{l':List Nod},ers l'=ers l->V3 P l' vs:=by
 induction h with
 | nil=>intro l' h;cases a2f h;exact .nil
 | cons h1 _ ih =>
  intro l' h;obtain⟨x',r,rfl,g1,g2⟩:=a6r h;exact .cons (h1 _ g1) (ih g2)
theorem R9:∀l:List Nod,2*l.length<=szN l
 | []=>Nat.le_refl _
 | x::r=>by have:=R9 r;have:=x.sz2;simp only[szN,List.length_cons];omega
def SGL:List Str:=[[44],[46],[58],[59],[61],[38],[33],[45],[123],[125],[91],[93],[60],[62],[45,62],[124,124],[38,38],[61,61],[33,61],[60,61],[62,61],[43],[42],[47],[37]]
def KYL:List Str:=[[116,114,117,101],[102,97,108,115,101],[99,111,110,115,117,109,101],[97,110,121],[105,110],[105,110,111,117,116],[108,101,116],[118,97,114],[105,102],[101,108,115,101],[109,97,116,99,104],[99,97,115,101],[100,101,102,101,114],[119,104,105,108,101],[114,101,116,117,114,110],[116,104,114,111,119],[100,111],[99,97,116,99,104],[102,117,110,99],[116,104,114,111,119,115],[119,104,101,114,101],[116,121,112,101],[115,116,114,117,99,116],[101,110,117,109],[99,108,97,115,115],[112,114,111,116,111,99,111,108],[101,120,116,101,110,100],[109,111,118,101,111,110,108,121],[102,114,111,122,101,110],[100,101,105,110,105,116],[105,110,100,105,114,101,99,116]]
def KO (V:Int->Str->Prop)(p:WK):Prop:=(p.1=1∨p.1=2∨p.1=3∨p.1=4)/\V p.1 p.2∨p.1=8/\p.2∈SGL∨p.1=9/\p.2∈KYL∨p =(1,[95])
inductive Bal (V:Int->Str->Prop):List WK->Prop
 | nil:Bal V []
 | tok {p:WK} {r:List WK}:KO V p->Bal V r->Bal V (p::r)
 | par {w r:List WK}:Bal V w->Bal V r->Bal V ((8,[40]) ::(w ++((8,[41])::r)))
 | int {s:Str} {vs:List (List WK×Str)} {r:List WK}:V 4 s->vs ≠ [] ->(∀v∈vs,Bal V v.1) ->(∀v∈vs,V 4 v.2)->Bal V r->Bal V ((5,s) ::(iw vs++r))
section
variable {V:Int->Str->Prop}
theorem Bal.app {b:List WK}(h:Bal V a)(g:Bal V b):Bal V (a++b):=by
 induction h with
 | nil=>exact g
 | tok h1 _ ih=>exact .tok h1 ih
 | par h1 h2 _ ih2=>have:=Bal.par h1 ih2;simpa using this
 | int h1 h2 h3 h4 h5 _ ih=>have:=Bal.int h1 h2 h3 h4 ih;simpa using this
theorem Bal.s {s:Str}{r:List WK}(hs:s∈SGL)(h:Bal V r):Bal V ((8,s)::r):=.tok (.inr (.inl ⟨rfl,hs⟩)) h
theorem Bal.k {s:Str}{r:List WK}(hs:s∈KYL)(h:Bal V r):Bal V ((9,s)::r):=.tok (.inr (.inr (.inl ⟨rfl,hs⟩))) h
theorem Bal.v {k:Int}{s:Str}{r:List WK}(hk:k=1∨k=2∨k=3∨k=4)(hs:V k s)(h:Bal V r):Bal V ((k,s)::r):=.tok (.inl ⟨hk,hs⟩) h
theorem Bal.p {r:List WK}(h:Bal V w)(g:Bal V r):Bal V ((8,[40]) ::(w ++((8,[41])::r))):=.par h g
theorem Bal.p1 (h:Bal V w):Bal V ((8,[40]) ::(w++[(8,[41])])):=.par h .nil
theorem bal_cm (h:∀w∈vs,Bal V w):Bal V (cm vs):=by
 induction vs with
 | nil=>exact .nil
 | cons w r ih=>rw[a3h];exact .s (by decide) ((h w (by simp)).app (ih fun x hx=>h x (by simp[hx])))
theorem b3X (h:∀w∈vs,Bal V w):Bal V (jo vs):=by
 cases vs with
 | nil=>exact .nil
 | cons w r=>rw[a7V];exact(h w (by simp)).app (bal_cm fun x hx=>h x (by simp[hx]))
theorem b2g (h:∀w∈vs,Bal V w):Bal V (cw vs):=.p1 (b3X h)
theorem b6O (h:∀w∈vs,Bal V w):Bal V vs.flatten:=by
 induction vs with
 | nil=>exact .nil
 | cons w r ih=>rw[List.flatten_cons];exact(h w (by simp)).app (ih fun x hx=>h x (by simp[hx]))
theorem a5o {R:α->List WK->Prop}{Q:List WK->Prop}{l:List α}(h:V3 R l vs)(hq:∀a w,R a w->Q w):∀w∈vs,Q w:=by
 induction h with
 | nil=>intro w hw;cases hw
 | cons h1 _ ih =>
  intro w hw;rcases List.mem_cons.1 hw with rfl|hw
  ·exact hq _ _ h1
  ·exact ih w hw
theorem a7S:∀{b:Bool} {t:Typ},GT V b t->Bal V (W t):=by
 intro b t h;induction h with
 | @base s a h1 h2 ih =>
  rw[b6B];refine .v (.inr (.inl rfl)) h1 ?_;cases a with
  | nil=>exact .nil
  | cons t r =>
   have ea:an (WW (t::r)) =(8,[60]) ::(jo (WW (t::r))++[(8,[62])]):=by rw[WW];rfl
   rw[ea];refine .s (by decide) ((b3X fun w hw=>?_).app (.s (by decide) .nil));rw[a5n]at hw;obtain⟨x,hx,rfl⟩:=List.mem_map.1 hw;exact ih x hx
 | @dot s t h1 h2 ih =>
  have e:W ⟨8,s,0,[t]⟩=W t++[(8,[46]),(2,s)]:=by rw[b6D];simp[wk,WW,jo]
  rw[e];exact ih.app (.s (by decide) (.v (.inr (.inl rfl)) h1 .nil))
 | path _ ih=>exact ih
 | any h=>rw[b6D];exact .k (by decide) (.v (.inr (.inl rfl)) h .nil)
 | @func a r h1 h2 ih1 ih2 =>
  rw[W_func];refine .par (b3X fun w hw=>?_) (.s (by decide) ih2);rw[a5n]at hw;obtain⟨x,hx,rfl⟩:=List.mem_map.1 hw;exact ih1 x hx
theorem bal_rs (h:t=uT∨GT V false t):Bal V (rsw t):=by
 unfold rsw;cases hk:eqB t.kind 4
 ·rcases h with rfl|h
  ·rw[a0z rfl]at hk;cases hk
  ·exact .s (by decide) (a7S h)
 ·exact .nil
def HLx:List WK:=[(8,[40]),(8,[91]),(8,[123]),(8,[45]),(8,[33]),(9,[116,114,117,101]),(9,[102,97,108,115,101]),(9,[99,111,110,115,117,109,101])]
def HX (w:List WK):Prop:=∃p r,w=p::r/\((p.1=1∨p.1=2∨p.1=3∨p.1=4∨p.1=5)∨p∈HLx)
theorem b5K (h:HX w){kd:Int}{s:Str}(h1:kd=8∨kd=9)(h2:(kd,s) ∉ HLx)(r:List WK):nx (w++r) kd s=false:=by
 obtain⟨p,q,rfl,hp⟩:=h;show(decide (p.1=kd)&&decide (p.2=s))=false;rcases hp with hp|hp
 ·rw[decide_eq_false (by omega)];rfl
 ·by_cases e:p.1=kd/\p.2=s
  ·exact absurd (show(kd,s)∈HLx by rw[<-e.1,<-e.2];exact hp) h2
  ·by_cases e1:p.1=kd
   ·rw[decide_eq_false (show ¬p.2=s from fun g=>e ⟨e1,g⟩),Bool.and_false]
   ·rw[decide_eq_false e1];rfl
theorem hx_eh (h:HX w)(r:List WK):EH (w++r):=by
 obtain⟨p,q,rfl,hp⟩:=h;refine⟨p,q++r,rfl,?_⟩;rcases hp with hp|hp
 ·left;omega
 ·by_cases h9:p.1=9
  ·right;simp only[HLx,List.mem_cons,List.not_mem_nil,or_false]at hp;rcases hp with rfl|rfl|rfl|rfl|rfl|rfl|rfl|rfl<;>first |(exact absurd h9 (by decide))|decide
  ·exact .inl h9
def NU (w:List WK):Prop:=∀r,nx (w++r) 8 [45]=false/\nx (w++r) 8 [33]=false
structure XR (V:Int->Str->Prop)(x:Nod)(w:List WK):Prop where
 p:PE PX x w
 u:RU x w
 hd:HX w
 l:x.op≠65->x.op≠66->RL x w/\NU w
 pl:PLC x->RP x w
 b:Bal V w
structure SR (V:Int->Str->Prop)(x:Nod)(w:List WK):Prop where
 p:PE PS x w
 r:SH x w
 b:Bal V w
structure BR (V:Int->Str->Prop)(x:Nod)(w:List WK):Prop where
 p:PE PB x w
 r:RBl x w
 b:Bal V w
 o:x.op=20
 e:∃u,w=u++[(8,[125])]
structure TR (V:Int->Str->Prop)(x:Nod)(w:List WK):Prop where
 p:PE PT x w
 r:RT x w
 b:Bal V w
structure MR (V:Int->Str->Prop)(x:Nod)(w:List WK):Prop where
 p:PE PM x w
 r:RM V x w
 b:Bal V w
structure AR (V:Int->Str->Prop)(x:Nod)(w:List WK):Prop where
 p:PE PA x w
 r:RAm x w
 b:Bal V w
structure GR (V:Int->Str->Prop)(x:Nod)(w:List WK):Prop where
 p:PE PX x w
 r:RG x w
 b:Bal V w
structure CR (V:Int->Str->Prop)(x:Nod)(w:List WK):Prop where
 p:PE PS x w
 r:RC x w
 b:Bal V w
 o:x.op=24
 h:∃u,w =(9,[105,102])::u
theorem XR.e (h:XR V x w):RE x w:=re_of h.u
theorem c0R (h:PLC x):x.op=54∨x.op=55:=by
 cases h with
 | nm h=>exact .inl h
 | fld _=>exact .inr rfl
theorem mkX (p:PE PX x w)(rl:RL x w)(hd:HX w)(nu:NU w)(h54:decide (x.op=54)=false)(h55:decide (x.op=55)=false)(b:Bal V w):XR V x w:=⟨p,ru_of rl (fun r=>(nu r).1) fun r=>(nu r).2,hd,fun _ _=>⟨rl,nu⟩,fun h=>(c0R h).elim (absurd · (of_decide_eq_false h54)) (absurd · (of_decide_eq_false h55)),b⟩
theorem mkA (p:PE PX x w)(ra:RAN x w)(hd:HX w)(nu:NU w)(h54:decide (x.op=54)=false)(h55:decide (x.op=55)=false)(b:Bal V w):XR V x w:=mkX p (rl_of ra (by obtain⟨p,r,rfl,_⟩:=hd;simp)) hd nu h54 h55 b
theorem rcv (h:XR V x w):RL x (rwd x w)/\NU (rwd x w)/\HX (rwd x w)/\Bal V (rwd x w):=by
 unfold rwd;cases hb:(eqB x.op 61||eqB x.op 63||eqB x.op 66||eqB x.op 65)
 ·simp only[Bool.or_eq_false_iff]at hb;obtain⟨⟨⟨_,_⟩,h1⟩,h2⟩:=hb;obtain⟨g1,g2⟩:=h.l (fun e=>by rw[a0z e]at h2;cases h2) (fun e=>by rw[a0z e]at h1;cases h1);exact⟨g1,g2,h.hd,h.b⟩
 ·exact⟨rl_of (b7S h.e).n (by simp),fun r=>⟨rfl,rfl⟩,⟨_,_,rfl,.inr (by decide)⟩,.p1 h.b⟩
theorem nu_app {b:List WK}(h:NU a):NU (a++b):=fun r=>by rw[List.append_assoc];exact h _
theorem b5h {b:List WK}(h:HX a):HX (a++b):=by
 obtain⟨p,r,rfl,h⟩:=h;exact⟨p,r++b,rfl,h⟩
theorem rwd_op (h:y.er=x.er):rwd y w=rwd x w:=by unfold rwd;rw[(a4D h).1]
theorem hx_W (h:GT V true t)(r:List WK):HX (W t++r)/\NU (W t++r):=by
 obtain⟨u,q,e⟩:=W_two h;rw[e];exact⟨⟨_,_,rfl,.inl (.inr (.inl rfl))⟩,fun r=>⟨rfl,rfl⟩⟩
structure VO (V:Int->Str->Prop):Prop where
 n3:∀{s},V 3 s->NumW s
 d3:∀{s},V 3 s->b4x s=true
 t4:∀{s},V 4 s->s.length<=20000
def REC (V:Int->Str->Prop)(c:Nat)(x:Nod):Prop:=match c with
 | 0=>∃w,XR V x w
 | 1=>∃w,SR V x w
 | 2=>∃w,BR V x w
 | 3=>∃w,TR V x w
 | 4=>∃w,MR V x w
 | 5=>∃w,AR V x w
 | 6=>∃w,GR V x w
 | 19=>∃w,CR V x w
 | _=>True
theorem a7C {R:Nod->List WK->Prop}{l:List Nod}{N:Nat}(h:∀y∈l,y.sz<=N -> ∃w,R y w)(hl:szN l<=N):∃vs,V3 R l vs:=b6f fun y hy=>h y hy (by have:=a1Q hy;omega)
theorem b7X {l:List Nod}(h:V3 (GR V) l vs)(hz:szN l<=12000):RGs 9 l (cw vs):=rg_args (h.imp fun _ _ _ g=>g.r) (by have:=R9 l;omega)
theorem gt_kd {b:Bool}(h:GT V b t):t.kind≠0:=by
 induction h with
 | @base s a h1 h2 =>
  show kindOf s a≠0;unfold kindOf;cases(eqB (a.length:Int) 0&&eqS s [73,110,116])<;>cases(eqB (a.length:Int) 0&&eqS s [66,111,111,108])<;>cases(eqB (a.length:Int) 0&&eqS s [84,101,120,116])<;>cases(eqB (a.length:Int) 0&&eqS s [85,110,105,116])<;>cases(eqB (a.length:Int) 1&&eqS s [65,114,114,97,121])<;>cases(eqB (a.length:Int) 1&&eqS s [87,101,97,107])<;>decide
 | dot _ _=>simp
 | path _ ih=>exact ih
 | any _=>simp
 | func _ _=>simp
theorem b1r {n:Int}:∀{l l':List Nod},ers l'=ers l ->(∀x∈l,x.op=n) -> ∀x∈l',x.op=n
 | [],l',h,_=>by cases a2f h;intro x hx;cases hx
 | y::r,l',h,g=>by
  obtain⟨x',r',rfl,h1,h2⟩:=a6r h;intro x hx;rcases List.mem_cons.1 hx with rfl|hx
  ·rw[(a4D h1).1];exact g y (by simp)
  ·exact b1r h2 (fun z hz=>g z (by simp[hz])) x hx
theorem fl_sz:∀{ps:List (Nod×Nod)} {p:Nod×Nod},p∈ps->p.1.sz<=szN (fl ps)
 | q::r,p,h=>by
  rw[fl,a4V,a4V];rcases List.mem_cons.1 h with rfl|h
  ·omega
  ·have:=fl_sz h;omega
def RPv (V:Int->Str->Prop)(p:Nod×Nod)(v:List WK×Str):Prop:=XR V p.1 v.1/\(∃a,p.2 =⟨52,v.2,0,zT,[],[],a⟩)/\V 4 v.2
theorem fl_er (vo:VO V){ps:List (Nod×Nod)}{vs:List (List WK×Str)}(h:V3 (RPv V) ps vs):∀{l':List Nod},ers l'=ers (fl ps) -> ∃ps',l'=fl ps'/\V3 PI ps' vs:=by
 induction h with
 | nil=>intro l' h;cases a2f h;exact⟨[],rfl,.nil⟩
 | @cons p v ps vs h1 h2 ih =>
  intro l' h;rw[fl]at h;obtain⟨x',r,rfl,g1,g2⟩:=a6r h;obtain⟨y',r',rfl,g3,g4⟩:=a6r g2;obtain⟨ps',rfl,g5⟩:=ih g4;obtain⟨k1,⟨a,k2⟩,k3⟩:=h1;rw[k2]at g3;obtain⟨l0,b,rfl,g6⟩:=a1u g3;cases a2f g6;exact⟨(x',⟨52,v.2,0,zT,[],[],b⟩)::ps',rfl,.cons ⟨k1.p _ g1,⟨b,rfl⟩,vo.t4 k3⟩ g5⟩
theorem all2_q {β:Type}{R:α->β->Prop}{Q:β->Prop}{l:List α}{vs:List β}(h:V3 R l vs)(hq:∀a w,R a w->Q w):∀w∈vs,Q w:=by
 induction h with
 | nil=>intro w hw;cases hw
 | cons h1 _ ih =>
  intro w hw;rcases List.mem_cons.1 hw with rfl|hw
  ·exact hq _ _ h1
  ·exact ih w hw
theorem b5u {s:Str}(hs:s ≠ [101,108,115,101])(h:RSt x ((9,s)::w)):SH x ((9,s)::w):=⟨h,fun r=>rfl,fun r=>by
 show(decide ((9:Int)=9)&&decide (s=_))=false;rw[decide_eq_false hs,Bool.and_false]⟩
theorem gx_x (vo:VO V):∀{c:Nat} {x:Nod},G V c x->x.sz<=12000->REC V c x:=by
 intro c x h;induction h with
 | @int s a h =>
  intro _;refine⟨[(3,s)],mkA (fun y hy=>?_) (ra_int (vo.d3 h)).n ⟨_,_,rfl,.inl (.inr (.inr (.inl rfl)))⟩ (fun r=>⟨rfl,rfl⟩) rfl rfl (.v (.inr (.inr (.inl rfl))) h .nil)⟩;obtain⟨l',b,rfl,hl⟩:=a1u hy;cases a2f hl;exact px_int (vo.n3 h)
 | @tru a =>
  intro _;refine⟨_,mkA (fun y hy=>?_) ra_tru.n ⟨_,_,rfl,.inr (by decide)⟩ (fun r=>⟨rfl,rfl⟩) rfl rfl (.k (by decide) .nil)⟩;obtain⟨l',b,rfl,hl⟩:=a1u hy;cases a2f hl;exact px_tru
 | @fal a =>
  intro _;refine⟨_,mkA (fun y hy=>?_) ra_fal.n ⟨_,_,rfl,.inr (by decide)⟩ (fun r=>⟨rfl,rfl⟩) rfl rfl (.k (by decide) .nil)⟩;obtain⟨l',b,rfl,hl⟩:=a1u hy;cases a2f hl;exact px_fal
 | @text s a h =>
  intro _;refine⟨[(4,s)],mkA (fun y hy=>?_) ra_text.n ⟨_,_,rfl,.inl (.inr (.inr (.inr (.inl rfl))))⟩ (fun r=>⟨rfl,rfl⟩) rfl rfl (.v (.inr (.inr (.inr rfl))) h .nil)⟩;obtain⟨l',b,rfl,hl⟩:=a1u hy;cases a2f hl;exact px_text (vo.t4 h)
 | @name s a h =>
  intro _;have rl:RL ⟨54,s,0,zT,[],[],a⟩ [(1,s)]:=rl_of c6o.n (by simp);refine⟨[(1,s)],fun y hy=>?_,ru_of rl (fun _=>rfl) (fun _=>rfl),⟨_,_,rfl,.inl (.inl rfl)⟩,fun _ _=>⟨rl,(fun r=>⟨rfl,rfl⟩)⟩,fun _=>rp_name,.v (.inl rfl) h .nil⟩;obtain⟨l',b,rfl,hl⟩:=a1u hy;cases a2f hl;exact px_name
 | @cons s a h =>
  intro _;refine⟨_,mkA (fun y hy=>?_) ra_cons.n ⟨_,_,rfl,.inr (by decide)⟩ (fun r=>⟨rfl,rfl⟩) rfl rfl (.k (by decide) (.v (.inl rfl) h .nil))⟩;obtain⟨l',b,rfl,hl⟩:=a1u hy;cases a2f hl;exact px_cons
 | @bin s x y a ho h1 h2 ih1 ih2 =>
  intro hz;simp only[SZ]at hz;obtain⟨w,g1⟩:=ih1 (by omega);obtain⟨v,g2⟩:=ih2 (by omega);refine⟨_,mkA (fun z hy=>?_) (ra_bin ho g1.u g2.u).n ⟨_,_,rfl,.inr (by decide)⟩ (fun r=>⟨rfl,rfl⟩) rfl rfl ?_⟩
  ·obtain⟨l',b,rfl,hl⟩:=a1u hy;obtain⟨x',y',rfl,e1,e2⟩:=b61 hl;exact px_bin (g1.p _ e1) (g2.p _ e2)
  ·have hs:s∈SGL:=by refine b0g (P:=fun s=>s∈SGL) ho ?_ ?_ ?_ ?_ ?_ ?_ ?_ ?_ ?_ ?_ ?_ ?_ ?_<;>decide
   have:=Bal.p1 (g1.b.app (.s hs g2.b));simpa using this
 | @un o x a ho h ih =>
  intro hz;simp only[SZ]at hz;obtain⟨w,g⟩:=ih (by omega);rcases ho with rfl|rfl
  ·refine⟨(8,[33])::w,fun z hy=>?_,ru_un (.inl ⟨rfl,rfl⟩) g.u,⟨_,_,rfl,.inr (by decide)⟩,fun h=>absurd rfl h,fun h=>(by rcases c0R h with h|h<;>cases h),.s (by decide) g.b⟩;obtain⟨l',b,rfl,hl⟩:=a1u hy;obtain⟨x',rfl,e1⟩:=a7U hl;exact px_not (g.p _ e1)
  ·refine⟨(8,[45])::w,fun z hy=>?_,ru_un (.inr ⟨rfl,rfl⟩) g.u,⟨_,_,rfl,.inr (by decide)⟩,fun _ h=>absurd rfl h,fun h=>(by rcases c0R h with h|h<;>cases h),.s (by decide) g.b⟩;obtain⟨l',b,rfl,hl⟩:=a1u hy;obtain⟨x',rfl,e1⟩:=a7U hl;exact px_neg (g.p _ e1)
 | @field s x a hs h ih =>
  intro hz;simp only[SZ]at hz;obtain⟨w,g⟩:=ih (by omega);obtain⟨g1,g2,g3,g4⟩:=rcv g;have rl:=rl_field (s:=s) (a:=a) g1;have nu:NU (rwd x w++[(8,[46]),(1,s)]):=nu_app g2;refine⟨_,fun z hy=>?_,ru_of rl (fun r=>(nu r).1) (fun r=>(nu r).2),b5h g3,fun _ _=>⟨rl,nu⟩,fun hp=>?_,g4.app (.s (by decide) (.v (.inl rfl) hs .nil))⟩
  ·obtain⟨l',b,rfl,hl⟩:=a1u hy;obtain⟨x',rfl,e1⟩:=a7U hl;refine b4h (.inl rfl) ?_;rw[<-rwd_op e1];exact pu_field (g.p _ e1)
  ·have hp:PLC x:=by
    cases hp with
    | nm h=>cases h
    | fld h=>exact h
   have e:rwd x w=w:=by
    unfold rwd;rcases c0R hp with h|h<;>rw[h]<;>simp[eqB]
   rw[e];exact rp_field (g.pl hp)
 | @call s l a hs h ih =>
  intro hz;simp only[SZ]at hz;obtain⟨vs,g⟩:=a7C ih (show szN l<=12000 by omega);have hb:=b2g (a5o g fun _ _ h=>h.b);refine⟨_,mkX (fun z hy=>?_) (rl_call (b7X g (by omega))) ⟨_,_,rfl,.inl (.inl rfl)⟩ (fun r=>⟨rfl,rfl⟩) rfl rfl (.v (.inl rfl) hs hb)⟩;obtain⟨l',b,rfl,hl⟩:=a1u hy;exact b4h (.inr (.inl rfl)) (pu_call (a3E (g.imp fun _ _ _ h=>h.p) hl))
 | @method s x l a hs h1 h ih1 ih =>
  intro hz;simp only[SZ]at hz;obtain⟨w,g1⟩:=ih1 (by omega);obtain⟨vs,g⟩:=a7C ih (show szN l<=12000 by omega);have hb:=b2g (a5o g fun _ _ h=>h.b);obtain⟨k1,k2,k3,k4⟩:=rcv g1;refine⟨_,mkX (fun z hy=>?_) (rl_method k1 (b7X g (by omega))) (b5h k3) (nu_app k2) rfl rfl (k4.app (.s (by decide) (.v (.inl rfl) hs hb)))⟩;obtain⟨l',b,rfl,hl⟩:=a1u hy;obtain⟨x',r',rfl,e1,e2⟩:=a6r hl;refine b4h (.inr (.inr (.inl rfl))) ?_;rw[<-rwd_op e1];exact c7s (g1.p _ e1) (a3E (g.imp fun _ _ _ h=>h.p) e2)
 | @stat0 s t a hs ht =>
  intro hz;simp only[SZ]at hz;refine⟨_,mkA (fun z hy=>?_) (ra_stat0 ht (by omega)) (hx_W ht _).1 (hx_W ht _).2 rfl rfl ((a7S ht).app (.s (by decide) (.v (.inl rfl) hs .nil)))⟩;obtain⟨l',b,rfl,hl⟩:=a1u hy;cases a2f hl;exact b4h (.inr (.inr (.inr (.inl rfl)))) pu_stat0
 | @stat1 s t l a hs ht h ih =>
  intro hz;simp only[SZ]at hz;obtain⟨vs,g⟩:=a7C ih (show szN l<=12000 by omega);have hb:=b2g (a5o g fun _ _ h=>h.b);refine⟨_,mkA (fun z hy=>?_) (ra_stat1 ht (by omega) (b7X g (by omega))).n (hx_W ht _).1 (hx_W ht _).2 rfl rfl ((a7S ht).app (.s (by decide) (.v (.inl rfl) hs hb)))⟩;obtain⟨l',b,rfl,hl⟩:=a1u hy;exact b4h (.inr (.inr (.inr (.inl rfl)))) (pu_stat1 (a3E (g.imp fun _ _ _ h=>h.p) hl))
 | @make t l a ht h ih =>
  intro hz;simp only[SZ]at hz;obtain⟨vs,g⟩:=a7C ih (show szN l<=12000 by omega);have hb:=b2g (a5o g fun _ _ h=>h.b);refine⟨_,mkA (fun z hy=>?_) (ra_make ht (by omega) (b7X g (by omega))).n (hx_W ht _).1 (hx_W ht _).2 rfl rfl ((a7S ht).app hb)⟩;obtain⟨l',b,rfl,hl⟩:=a1u hy;exact b4h (.inr (.inr (.inr (.inr (.inl rfl))))) (pu_make (a3E (g.imp fun _ _ _ h=>h.p) hl))
 | @apply x l a h1 h ih1 ih =>
  intro hz;simp only[SZ]at hz;obtain⟨w,g1⟩:=ih1 (by omega);obtain⟨vs,g⟩:=a7C ih (show szN l<=12000 by omega);have hb:=b2g (a5o g fun _ _ h=>h.b);refine⟨_,mkX (fun z hy=>?_) (rl_apply g1.e (b7X g (by omega))) ⟨_,_,rfl,.inr (by decide)⟩ (fun r=>⟨rfl,rfl⟩) rfl rfl (.par g1.b hb)⟩;obtain⟨l',b,rfl,hl⟩:=a1u hy;obtain⟨x',r',rfl,e1,e2⟩:=a6r hl;exact b4h (.inr (.inr (.inr (.inr (.inr rfl))))) (pu_apply (g1.p _ e1) (a3E (g.imp fun _ _ _ h=>h.p) e2))
 | @list l a h ih =>
  intro hz;simp only[SZ]at hz;obtain⟨vs,g⟩:=a7C ih (show szN l<=12000 by omega);have hl2:=R9 l;refine⟨_,mkA (fun z hy=>?_) (ra_list (g.imp fun _ _ _ h=>⟨h.e,b5K h.hd (.inl rfl) (by decide)⟩) (by omega)).n ⟨_,_,rfl,.inr (by decide)⟩ (fun r=>⟨rfl,rfl⟩) rfl rfl (.s (by decide) ((b3X (a5o g fun _ _ h=>h.b)).app (.s (by decide) .nil)))⟩;obtain⟨l',b,rfl,hl⟩:=a1u hy;exact px_elist (a3E (g.imp fun _ _ _ h=>h.p) hl)
 | @lend x a h hp ih =>
  intro hz;simp only[SZ]at hz;obtain⟨w,g⟩:=ih (by omega);refine⟨(8,[38])::w,fun z hy=>?_,.inl ⟨x,w,a,rfl,rfl,g.pl hp⟩,.s (by decide) g.b⟩;obtain⟨l',b,rfl,hl⟩:=a1u hy;obtain⟨x',rfl,e1⟩:=a7U hl;exact px_lend (g.p _ e1)
 | @arg x h ih =>
  intro hz;obtain⟨w,g⟩:=ih hz;exact⟨w,g.p,.inr ⟨g.e,b5K g.hd (.inl rfl) (by decide),b5K g.hd (.inl rfl) (by decide)⟩,g.b⟩
 | @interp x ps a hx hp h1 h2 ih1 =>
  intro hz;simp only[SZ]at hz;cases hx with
  | @mk s b hs =>
   have hg:∃vs,V3 (RPv V) ps vs:=b6f fun p hp=>by
    obtain⟨w,g⟩:=ih1 p hp (by have:=fl_sz hp;omega);have g2:=h2 p hp;obtain⟨p1,p2⟩:=p;simp only at g g2;cases g2 with
    | @mk u c hu=>exact⟨(w,u),g,⟨c,rfl⟩,hu⟩
   obtain⟨vs,g⟩:=hg;have hfl:=c0n ps;have hl2:=R9 (fl ps);have hvp:vs ≠ []:=by intro e;subst e;cases g;exact hp rfl
   refine⟨(5,s)::iw vs,mkA (fun z hy=>?_) (c7w hp (g.imp fun _ _ _ h=>⟨h.1.e,h.2.1⟩) (by omega)).n ⟨_,_,rfl,.inl (.inr (.inr (.inr (.inr rfl))))⟩ (fun r=>⟨rfl,rfl⟩) rfl rfl ?_⟩
   ·obtain⟨l',b',rfl,hl⟩:=a1u hy;obtain⟨x',r',rfl,e1,e2⟩:=a6r hl;obtain⟨l0,b2,rfl,e3⟩:=a1u e1;cases a2f e3;obtain⟨ps',rfl,e4⟩:=fl_er vo g e2;refine c7u (vo.t4 hs) (fun e=>?_) e4;subst e;cases e4;exact hvp rfl
   ·have:=Bal.int (r:=[]) hs hvp (all2_q g fun _ _ h=>h.1.b) (all2_q g fun _ _ h=>h.2.2) .nil;simpa using this
 | @clos t ps ss a b ht h1 h2 ih1 ih2 =>
  intro hz;simp only[SZ]at hz;obtain⟨us,g1⟩:=a7C ih1 (show szN ps<=12000 by omega);obtain⟨vs,g2⟩:=a7C ih2 (show szN ss<=12000 by omega);have l1:=R9 ps;have l2:=R9 ss;have hb:=Bal.s (V:=V) (s:=[123]) (by decide) ((b2g (a5o g1 fun _ _ h=>h.b)).app ((bal_rs ht).app (.k (s:=[105,110]) (by decide) ((b6O (a5o g2 fun _ _ h=>h.b)).app (.s (s:=[125]) (by decide) .nil)))));refine⟨_,mkA (fun z hy=>?_) (ra_clos ht (by omega) (g1.imp fun _ _ _ h=>h.r) (by omega) (g2.imp fun _ _ _ h=>h.r) (by omega)).n ⟨_,_,rfl,.inr (by decide)⟩ (fun r=>⟨rfl,rfl⟩) rfl rfl hb⟩;obtain⟨l',b',rfl,hl⟩:=a1u hy;obtain⟨p',q',rfl,e1,e2⟩:=b2m hl;obtain⟨x',rfl,e3⟩:=a7U e2;obtain⟨s',b2,rfl,e4⟩:=a1u e3;exact px_clos (b1r e1 fun x hx=>by cases h1 x hx;rfl) (a3E (g1.imp fun _ _ _ h=>h.p) e1) (a3E (g2.imp fun _ _ _ h=>h.p) e4)
 | @let0 s t a hs ht =>
  intro hz;simp only[SZ]at hz;refine⟨_,fun z hy=>?_,b5u (by decide) (c4S (rl_var0 ht (by omega))),.k (by decide) (.v (.inl rfl) hs (.s (by decide) ((a7S ht).app (.s (by decide) .nil))))⟩;obtain⟨l',b,rfl,hl⟩:=a1u hy;cases a2f hl;exact ps_let0 (gt_kd ht)
 | @let1 s n t x a hs hn ht h ih =>
  intro hz;simp only[SZ]at hz;obtain⟨w,g⟩:=ih (by omega);rcases hn with rfl|rfl<;>rcases ht with rfl|ht
  ·refine⟨_,fun z hy=>?_,b5u (by decide) (rs_let (rl_letu g.e)),.k (by decide) (.v (.inl rfl) hs (.s (by decide) (g.b.app (.s (by decide) .nil))))⟩;obtain⟨l',b,rfl,hl⟩:=a1u hy;obtain⟨x',rfl,e1⟩:=a7U hl;exact ps_letu0 (g.p _ e1)
  ·refine⟨_,fun z hy=>?_,b5u (by decide) (rs_let (rl_lett ht (by omega) g.e)),.k (by decide) (.v (.inl rfl) hs (.s (by decide) ((a7S ht).app (.s (by decide) (g.b.app (.s (by decide) .nil))))))⟩;obtain⟨l',b,rfl,hl⟩:=a1u hy;obtain⟨x',rfl,e1⟩:=a7U hl;exact ps_lett0 (gt_kd ht) (g.p _ e1)
  ·refine⟨_,fun z hy=>?_,b5u (by decide) (c4S (rl_varu g.e)),.k (by decide) (.v (.inl rfl) hs (.s (by decide) (g.b.app (.s (by decide) .nil))))⟩;obtain⟨l',b,rfl,hl⟩:=a1u hy;obtain⟨x',rfl,e1⟩:=a7U hl;exact ps_letu1 (g.p _ e1)
  ·refine⟨_,fun z hy=>?_,b5u (by decide) (c4S (rl_vart ht (by omega) g.e)),.k (by decide) (.v (.inl rfl) hs (.s (by decide) ((a7S ht).app (.s (by decide) (g.b.app (.s (by decide) .nil))))))⟩;obtain⟨l',b,rfl,hl⟩:=a1u hy;obtain⟨x',rfl,e1⟩:=a7U hl;exact ps_lett1 (gt_kd ht) (g.p _ e1)
 | @assign x y a h1 hp h2 ih1 ih2 =>
  intro hz;simp only[SZ]at hz;obtain⟨w,g⟩:=ih1 (by omega);obtain⟨v,f⟩:=ih2 (by omega);refine⟨_,fun z hy=>?_,⟨c7G g.e hp (by omega) f.e (by have:=hx_eh g.hd [];rwa [List.append_nil]at this),b5K (b5h g.hd) (.inl rfl) (by decide),b5K (b5h g.hd) (.inr rfl) (by decide)⟩,g.b.app (.s (by decide) (f.b.app (.s (by decide) .nil)))⟩;obtain⟨l',b,rfl,hl⟩:=a1u hy;obtain⟨x',y',rfl,e1,e2⟩:=b61 hl;exact c7r (g.p _ e1) (f.p _ e2)
 | @sole x a h ih =>
  intro hz;simp only[SZ]at hz;obtain⟨w,g⟩:=ih (by omega);refine⟨_,fun z hy=>?_,⟨rs_sole g.e (by have:=hx_eh g.hd [];rwa [List.append_nil]at this),b5K (b5h g.hd) (.inl rfl) (by decide),b5K (b5h g.hd) (.inr rfl) (by decide)⟩,g.b.app (.s (by decide) .nil)⟩;obtain⟨l',b,rfl,hl⟩:=a1u hy;obtain⟨x',rfl,e1⟩:=a7U hl;exact ps_sole (g.p _ e1)
 | @if2 x b a h1 h2 ih1 ih2 =>
  intro hz;simp only[SZ]at hz;obtain⟨w,g⟩:=ih1 (by omega);obtain⟨v,f⟩:=ih2 (by omega);refine⟨_,fun z hy=>?_,rc_if2 g.e f.r,.k (by decide) (g.b.app f.b),rfl,_,rfl⟩;obtain⟨l',b,rfl,hl⟩:=a1u hy;obtain⟨x',y',rfl,e1,e2⟩:=b61 hl;exact ps_if2 (g.p _ e1) (f.p _ e2)
 | @if3 x b c a h1 h2 h3 ih1 ih2 ih3 =>
  intro hz;simp only[SZ]at hz;obtain⟨w,g⟩:=ih1 (by omega);obtain⟨v,f⟩:=ih2 (by omega);obtain⟨u,k⟩:=ih3 (by omega);refine⟨_,fun z hy=>?_,rc_if3 g.e f.r k.r,.k (by decide) (g.b.app (f.b.app (.k (by decide) k.b))),rfl,_,rfl⟩;obtain⟨l',b,rfl,hl⟩:=a1u hy;obtain⟨x',y',z',rfl,e1,e2,e3⟩:=ers_3 hl;exact ps_if3 (g.p _ e1) (f.p _ e2) (k.p _ e3) (by rw[(a4D e3).1,k.o];decide)
 | @if4 x b c a h1 h2 h3 ih1 ih2 ih3 =>
  intro hz;simp only[SZ]at hz;obtain⟨w,g⟩:=ih1 (by omega);obtain⟨v,f⟩:=ih2 (by omega);obtain⟨u,k⟩:=ih3 (by omega);obtain⟨u',hu⟩:=k.h;subst hu;refine⟨_,fun z hy=>?_,rc_if4 g.e f.r k.r,.k (by decide) (g.b.app (f.b.app (.k (by decide) k.b))),rfl,_,rfl⟩;obtain⟨l',b,rfl,hl⟩:=a1u hy;obtain⟨x',y',z',rfl,e1,e2,e3⟩:=ers_3 hl;exact ps_if4 (g.p _ e1) (f.p _ e2) (k.p _ e3) (by rw[(a4D e3).1,k.o])
 | @ifs x h ih =>
  intro hz;obtain⟨w,g⟩:=ih hz;obtain⟨u,hu⟩:=g.h;subst hu;exact⟨_,g.p,b5u (by decide) (rs_if g.r),g.b⟩
 | @whil x b a h1 h2 ih1 ih2 =>
  intro hz;simp only[SZ]at hz;obtain⟨w,g⟩:=ih1 (by omega);obtain⟨v,f⟩:=ih2 (by omega);refine⟨_,fun z hy=>?_,b5u (by decide) (rs_while g.e f.r),.k (by decide) (g.b.app f.b)⟩;obtain⟨l',b,rfl,hl⟩:=a1u hy;obtain⟨x',y',rfl,e1,e2⟩:=b61 hl;exact ps_while (g.p _ e1) (f.p _ e2)
 | @mat x l a h1 h ih1 ih =>
  intro hz;simp only[SZ]at hz;obtain⟨w,g1⟩:=ih1 (by omega);obtain⟨vs,g⟩:=a7C ih (show szN l<=12000 by omega);have hl2:=R9 l;refine⟨_,fun z hy=>?_,b5u (by decide) (rs_match (rm_match g1.e (g.imp fun _ _ _ h=>h.r) (by omega))),.k (by decide) (g1.b.app (.s (by decide) ((b6O (a5o g fun _ _ h=>h.b)).app (.s (by decide) .nil))))⟩;obtain⟨l',b,rfl,hl⟩:=a1u hy;obtain⟨x',r',rfl,e1,e2⟩:=a6r hl;exact ps_match (g1.p _ e1) (a3E (g.imp fun _ _ _ h=>h.p) e2)
 | @ret0 a =>
  intro _;refine⟨_,fun z hy=>?_,b5u (by decide) rs_ret0,.k (by decide) (.s (by decide) .nil)⟩;obtain⟨l',b,rfl,hl⟩:=a1u hy;cases a2f hl;exact ps_ret0
 | @ret1 x a h ih =>
  intro hz;simp only[SZ]at hz;obtain⟨w,g⟩:=ih (by omega);refine⟨_,fun z hy=>?_,b5u (by decide) (rs_ret1 g.e (b5K g.hd (.inl rfl) (by decide))),.k (by decide) (g.b.app (.s (by decide) .nil))⟩;obtain⟨l',b,rfl,hl⟩:=a1u hy;obtain⟨x',rfl,e1⟩:=a7U hl;exact ps_ret1 (g.p _ e1)
 | @thrw x a h ih =>
  intro hz;simp only[SZ]at hz;obtain⟨w,g⟩:=ih (by omega);refine⟨_,fun z hy=>?_,b5u (by decide) (rs_throw g.e),.k (by decide) (g.b.app (.s (by decide) .nil))⟩;obtain⟨l',b,rfl,hl⟩:=a1u hy;obtain⟨x',rfl,e1⟩:=a7U hl;exact ps_throw (g.p _ e1)
 | @doc s b c a hs h1 h2 ih1 ih2 =>
  intro hz;simp only[SZ]at hz;obtain⟨w,g⟩:=ih1 (by omega);obtain⟨v,f⟩:=ih2 (by omega);refine⟨_,fun z hy=>?_,b5u (by decide) (rs_do g.r f.r),.k (by decide) (g.b.app (.k (by decide) (.v (.inl rfl) hs f.b)))⟩;obtain⟨l',b,rfl,hl⟩:=a1u hy;obtain⟨x',y',rfl,e1,e2⟩:=b61 hl;exact ps_do (g.p _ e1) (f.p _ e2)
 | @dfr b a h ih =>
  intro hz;simp only[SZ]at hz;obtain⟨w,g⟩:=ih (by omega);refine⟨_,fun z hy=>?_,b5u (by decide) (rs_defer g.r),.k (by decide) g.b⟩;obtain⟨l',b,rfl,hl⟩:=a1u hy;obtain⟨x',rfl,e1⟩:=a7U hl;exact ps_defer (g.p _ e1)
 | @block l a h ih =>
  intro hz;simp only[SZ]at hz;obtain⟨vs,g⟩:=a7C ih (show szN l<=12000 by omega);have hl2:=R9 l;refine⟨_,fun z hy=>?_,rb_block (g.imp fun _ _ _ h=>h.r) (by omega),.s (by decide) ((b6O (a5o g fun _ _ h=>h.b)).app (.s (by decide) .nil)),rfl,⟨_::_,rfl⟩⟩;obtain⟨l',b,rfl,hl⟩:=a1u hy;exact pb_block (a3E (g.imp fun _ _ _ h=>h.p) hl)
 | @wild a =>
  intro _;refine⟨[(1,[95])],fun z hy=>?_,rt_wild,.tok (.inr (.inr (.inr rfl))) .nil⟩;obtain⟨l',b,rfl,hl⟩:=a1u hy;cases a2f hl;exact pp_wild
 | @bnd s a hs hn =>
  intro _;refine⟨[(1,s)],fun z hy=>?_,rt_bind hn,.v (.inl rfl) hs .nil⟩;obtain⟨l',b,rfl,hl⟩:=a1u hy;cases a2f hl;exact pp_bind
 | @pint s a h =>
  intro _;refine⟨[(3,s)],fun z hy=>?_,rt_int (vo.d3 h),.v (.inr (.inr (.inl rfl))) h .nil⟩;obtain⟨l',b,rfl,hl⟩:=a1u hy;cases a2f hl;exact pp_int (vo.n3 h)
 | @pneg s a h =>
  intro _;refine⟨cond (decide (a1h s 0=0)) [(3,s)] [(8,[45]),(3,s)],fun z hy=>?_,?_,?_⟩
  ·obtain⟨l',b,rfl,hl⟩:=a1u hy;cases a2f hl;exact pp_neg (vo.n3 h)
  ·by_cases h0:a1h s 0=0
   ·rw[decide_eq_true h0,show w64 (0-((a1h s 0:Nat):Int)) =((a1h s 0:Nat):Int)by rw[h0];decide];exact rt_int (vo.d3 h)
   ·rw[decide_eq_false h0];exact rt_neg (vo.d3 h)
  ·by_cases h0:a1h s 0=0
   ·rw[decide_eq_true h0];exact .v (.inr (.inr (.inl rfl))) h .nil
   ·rw[decide_eq_false h0];exact .s (by decide) (.v (.inr (.inr (.inl rfl))) h .nil)
 | @ptru a =>
  intro _;refine⟨_,fun z hy=>?_,rt_tru,.k (by decide) .nil⟩;obtain⟨l',b,rfl,hl⟩:=a1u hy;cases a2f hl;exact pp_tru
 | @pfal a =>
  intro _;refine⟨_,fun z hy=>?_,rt_fal,.k (by decide) .nil⟩;obtain⟨l',b,rfl,hl⟩:=a1u hy;cases a2f hl;exact pp_fal
 | @ptext s a h =>
  intro _;refine⟨[(4,s)],fun z hy=>?_,rt_text,.v (.inr (.inr (.inr rfl))) h .nil⟩;obtain⟨l',b,rfl,hl⟩:=a1u hy;cases a2f hl;exact pp_text (vo.t4 h)
 | @pcase s l a hs h ih =>
  intro hz;simp only[SZ]at hz;obtain⟨vs,g⟩:=a7C ih (show szN l<=12000 by omega);have hl2:=R9 l;by_cases h0:l=[]
  ·subst h0;refine⟨[(8,[46]),(1,s)],fun z hy=>?_,rt_case0,.s (by decide) (.v (.inl rfl) hs .nil)⟩;obtain⟨l',b,rfl,hl⟩:=a1u hy;cases a2f hl;exact pp_case0
  ·refine⟨_,fun z hy=>?_,rt_case1 h0 (g.imp fun _ _ _ h=>h.r) (by omega),.s (by decide) (.v (.inl rfl) hs (b2g (a5o g fun _ _ h=>h.b)))⟩;obtain⟨l',b,rfl,hl⟩:=a1u hy;exact pp_case1 (fun e=>by subst e;exact h0 (a2f hl.symm)) (a3E (g.imp fun _ _ _ h=>h.p) hl)
 | @param s n t a hs hn ht =>
  intro hz;simp only[SZ]at hz;refine⟨pmw n ++((1,s) ::(8,[58])::W t),fun z hy=>?_,⟨s,n,t,a,rfl,hn,ht,by omega,rfl⟩,?_⟩
  ·obtain⟨l',b,rfl,hl⟩:=a1u hy;cases a2f hl;rcases hn with rfl|rfl|rfl
   ·exact c7l
   ·exact c7m
   ·exact c7n
  ·have hb:Bal V ((1,s) ::(8,[58])::W t):=.v (.inl rfl) hs (.s (by decide) (a7S ht));rcases hn with rfl|rfl|rfl
   ·exact hb
   ·exact .k (by decide) hb
   ·exact .k (by decide) hb
 | @arm p b a h1 h2 ih1 ih2 =>
  intro hz;simp only[SZ]at hz;obtain⟨w,g⟩:=ih1 (by omega);obtain⟨v,f⟩:=ih2 (by omega);refine⟨_,fun z hy=>?_,⟨p,b,w,v,a,rfl,g.r,f.r,rfl⟩,.k (by decide) (g.b.app f.b)⟩;obtain⟨l',b,rfl,hl⟩:=a1u hy;obtain⟨x',y',rfl,e1,e2⟩:=b61 hl;exact pa_arm (g.p _ e1) (f.p _ e2)
 | _=>intro _;trivial
end
end Go.Proofs.YtjhfloacokgdiaaGreatDoor
