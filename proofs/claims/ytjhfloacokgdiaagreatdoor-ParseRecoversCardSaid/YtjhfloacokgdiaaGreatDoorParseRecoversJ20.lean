/- Texts of ParseRecovers, joined. -/
import Derived.Test.YtjhfloacokgdiaaGreatDoorParseRecoversJ19
import Derived.KernelRfl
set_option maxRecDepth 100000
set_option maxHeartbeats 20000000
set_option linter.all false
namespace Go.Proofs.YtjhfloacokgdiaaGreatDoor
open Go Go.Vm Pr
variable {a size:Int} {vs:List (List WK)} {xs:List Nod} {l:List Tok} {r u v w:List WK} {k n:Nat} {b c x:Nod} {s:Str} {t:Typ}
theorem stmts_lp {rest:List WK}(hv:V3 SH xs vs):∀(m k:Nat) (acc:List Nod),At l k (vs.flatten ++((8,[125])::rest))->200000+40*(l.length-k)+30<=n->xs.length<m->acc.length+xs.length<=9000->S1 (RL_ mkB l (acc++xs) rest) (X3 n (j3.fs n) size l m acc k):=by
 induction hv with
 | nil =>
  intro m k acc h hn hm ha;obtain⟨m,rfl⟩:∃q,m=q+1:=⟨m-1,by omega⟩
  have h:At l k ((8,[125])::rest):=h;have hk:=h.le;rw[X3.eq_2];exact rdk
 | @cons x w xs vs hg hv ih =>
  intro m k acc h hn hm ha;obtain⟨m,rfl⟩:∃q,m=q+1:=⟨m-1,by omega⟩
  simp only[List.length_cons]at hm ha;rw[List.flatten_cons,List.append_assoc]at h;have hk:=h.le;obtain⟨g,g1,g2⟩:=hg;have g1:=g1 (vs.flatten ++((8,[125])::rest));have hst:NSt (vs.flatten ++((8,[125])::rest)):=by
   cases hv with
   | nil=>rfl
   | @cons x2 w2 xs vs h2 h3=>rw[List.flatten_cons,List.append_assoc];exact h2.2.2 _
  have ih:=fun k acc h hl hn=>ih m k acc h hn (by omega) hl;rw[X3.eq_2];exact rdk
theorem r_sts {A:Type}{Q:A->Prop}{f:List Nod×Int->Option A}{e:o6×Int->Option A}(h:At l k (vs.flatten ++((8,[125])::r)))(hv:V3 SH xs vs)(hx:xs.length<=8000)(hn:200000+40*(l.length-k)+32<=n)(g:∀ys (q:Nat),ers ys=ers xs->ys.length=xs.length->At l q r->q<=l.length/\l.length<=3000->S1 Q (f (ys,(q:Int)))):S1 Q (p9 ((j3.fs n).M4 l k size) f e):=by
 obtain⟨n,rfl⟩:∃q,n=q+1:=⟨n-1,by omega⟩
 refine c4N (xs:=xs) (rest:=r) ?_ g;have ls1:=fun{k:Nat} (h:At l k (vs.flatten ++((8,[125])::r))) (hn:200000+40*(l.length-k)+30<=n)=>stmts_lp (size:=size) (n:=n) hv n k [] h hn (by omega) (by simp only[List.length_nil];omega);show S1 _ (a0q n _ l k size);unfold a0q;simp only[NF];exact r_lb (ls1 h (by omega)) fun _ _ h1 _ h2 _=>r_fin h2 h1
theorem rb_block (h:V3 SH xs vs)(hx:xs.length<=8000):RBl ⟨20,[],0,zT,[],xs,a⟩ ((8,[123]) ::(vs.flatten++[(8,[125])])):=⟨a5A fun l size n k rest A hP hk hn=>by
 simp only[apC]at A;show S1 _ (a1v n _ l k size);unfold a1v;refine b8g A.hl A.hk fun _=>c06 A.hl A.hk (w_T A fun A hk=>r_sts A h hx (by omega) fun _ _ h1 _ h2 _=>c4M h2 (er5 h1)),_,rfl⟩
theorem ra_clos {V:Int->Str->Prop}{ps ss:List Nod}{us:List (List WK)}{b:Int}(ht:t=uT∨GT V false t)(hz:t.sz<=40000)(h:V3 (RM V) ps us)(hp:ps.length<=8000)(g:V3 SH ss vs)(hs:ss.length<=8000):RA ⟨63,[],0,t,[],ps++[⟨20,[],0,zT,[],ss,b⟩],a⟩ ((8,[123]) ::(cw us ++(rsw t ++((9,[105,110]) ::(vs.flatten++[(8,[125])]))))):=a5A fun l size n k rest A hP hk hn=>by
 simp only[apC]at A;obtain⟨n,rfl⟩:∃q,n=q+1:=⟨n-1,by omega⟩
 have ls1:=fun{k:Nat} {r:List WK} (A:At l k (cw us++r))=>show S1 (RL_ mkR l ps r) (X7 n l k size)from by
  obtain⟨ys,e,he,_⟩:=b9D (size:=size) (n:=n) h hp A.hl A.hk A.K (by omega);exact⟨_,e,ys,_,rfl,he,A.ap⟩
 have lt1:S1 (RN_ l ⟨63,[],0,t,[],ps++[⟨20,[],0,zT,[],ss,b⟩],a⟩ rest) ((j3.fs (n+1)).Q8 l k size):=by
  show S1 _ (a0Y n _ l k size);unfold a0Y;refine b8g A.hl A.hk fun _=>b8g A.hl A.hk fun _=>c06 A.hl A.hk (w_T A fun A1 h1=>c4N (ls1 A1) fun _ _ e1 e2 A2 h2=>r_res A2 ht hz (by omega) ⟨⟨rfl,.inl rfl⟩,rfl⟩ fun _ A3 h3=>b5z A3.hl A3.hk (w_T A3 fun A4 h4=>r_sts A4 g hs (by
   have a1:=A.wl;have a2:=A4.wl;simp only[List.length_append,List.length_cons]at a1 a2;omega) fun _ _ e3 _ A5 _=>?_))
  exact t_app (by omega) (by simp) (by decide) (c4M A5 (er5 (c0d e1 (b60 (er5 e3)))))
 show S1 _ (D7 (n+1) _ l k size);unfold D7;have lt1:=fun(h:At l k ((8,[123]) ::(cw us ++(rsw t ++((9,[105,110]) ::(vs.flatten ++((8,[125])::rest)))))))=>lt1;exact rdk
theorem rl_letu (h:RE x w):RX 26 T1 j3.K6 ⟨21,s,0,zT,[],[x],a⟩ ((9,[108,101,116]) ::(1,s) ::(8,[61]) ::(w++[(8,[59])])):=a5A fun l size n k rest h hP hk hn=>by
 simp only[apC]at h;show S1 _ (M5 n _ l k size);unfold M5;exact rdk
theorem rl_lett {V:Int->Str->Prop}(ht:GT V false t)(hz:t.sz<=40000)(h:RE x w):RX 26 T1 j3.K6 ⟨21,s,0,t,[],[x],a⟩ ((9,[108,101,116]) ::(1,s) ::(8,[58]) ::(W t ++((8,[61]) ::(w++[(8,[59])])))):=a5A fun l size n k rest h hP hk hn=>by
 simp only[apC]at h;show S1 _ (M5 n _ l k size);unfold M5;exact rdk
theorem rl_varu (h:RE x w):RX 26 T1 j3.K6 ⟨21,s,1,zT,[],[x],a⟩ ((9,[118,97,114]) ::(1,s) ::(8,[61]) ::(w++[(8,[59])])):=a5A fun l size n k rest h hP hk hn=>by
 simp only[apC]at h;show S1 _ (M5 n _ l k size);unfold M5;exact rdk
theorem rl_vart {V:Int->Str->Prop}(ht:GT V false t)(hz:t.sz<=40000)(h:RE x w):RX 26 T1 j3.K6 ⟨21,s,1,t,[],[x],a⟩ ((9,[118,97,114]) ::(1,s) ::(8,[58]) ::(W t ++((8,[61]) ::(w++[(8,[59])])))):=a5A fun l size n k rest h hP hk hn=>by
 simp only[apC]at h;show S1 _ (M5 n _ l k size);unfold M5;exact rdk
theorem rl_var0 {V:Int->Str->Prop}(ht:GT V false t)(hz:t.sz<=40000):RX 26 T1 j3.K6 ⟨21,s,1,t,[],[],a⟩ ((9,[118,97,114]) ::(1,s) ::(8,[58]) ::(W t++[(8,[59])])):=a5A fun l size n k rest h hP hk hn=>by
 simp only[apC]at h;show S1 _ (M5 n _ l k size);unfold M5;exact rdk
theorem rs_let (h:RX 26 T1 j3.K6 x ((9,[108,101,116])::w)):RSt x ((9,[108,101,116])::w):=a5A fun l size n k rest h hP hk hn=>by
 have A:=h;simp only[apC]at h;show S1 _ (A9 n _ l k size);unfold A9;exact rdk
theorem c4S (h:RX 26 T1 j3.K6 x ((9,[118,97,114])::w)):RSt x ((9,[118,97,114])::w):=a5A fun l size n k rest h hP hk hn=>by
 have A:=h;simp only[apC]at h;show S1 _ (A9 n _ l k size);unfold A9;exact rdk
theorem rs_if (h:RX 28 NSt j3.J6 x ((9,[105,102])::w)):RSt x ((9,[105,102])::w):=a5A fun l size n k rest h hP hk hn=>by
 have A:=h;simp only[apC]at h;show S1 _ (A9 n _ l k size);unfold A9;exact rdk
theorem rs_match (h:RX 26 T1 j3.U2 x ((9,[109,97,116,99,104])::w)):RSt x ((9,[109,97,116,99,104])::w):=a5A fun l size n k rest h hP hk hn=>by
 have A:=h;simp only[apC]at h;show S1 _ (A9 n _ l k size);unfold A9;exact rdk
theorem rs_throw (h:RE x w) :RSt ⟨29,[],0,zT,[],[x],a⟩ ((9,[116,104,114,111,119]) ::(w++[(8,[59])])):=a5A fun l size n k rest h hP hk hn=>by
 simp only[apC]at h;show S1 _ (A9 n _ l k size);unfold A9;have h1:=h.up;have hk1:=h1.le;exact rdk
theorem rs_ret0 :RSt ⟨28,[],0,zT,[],[],a⟩ [(9,[114,101,116,117,114,110]),(8,[59])]:=a5A fun l size n k rest h hP hk hn=>by
 simp only[apC]at h;show S1 _ (A9 n _ l k size);unfold A9;have h1:=h.up;have hk1:=h1.le;exact rdk
theorem rs_while (h:RE x w)(g:RBl b v):RSt ⟨25,[],0,zT,[],[x,b],a⟩ ((9,[119,104,105,108,101]) ::(w++v)):=a5A fun l size n k rest h hP hk hn=>by
 simp only[apC]at h;show S1 _ (A9 n _ l k size);unfold A9;have h1:=h.up;have hk1:=h1.le;exact rdk
theorem rs_defer (g:RBl b v):RSt ⟨31,[],0,zT,[],[b],a⟩ ((9,[100,101,102,101,114])::v):=a5A fun l size n k rest h hP hk hn=>by
 simp only[apC]at h;show S1 _ (A9 n _ l k size);unfold A9;exact rdk
theorem rs_do (h:RBl x w)(g:RBl b v):RSt ⟨30,s,0,zT,[],[x,b],a⟩ ((9,[100,111]) ::(w ++((9,[99,97,116,99,104]) ::(1,s)::v))):=a5A fun l size n k rest h hP hk hn=>by
 simp only[apC]at h;show S1 _ (A9 n _ l k size);unfold A9;exact rdk
theorem rs_ret1 (h:RE x w)(hh:∀r,nx (w++r) 8 [59]=false) :RSt ⟨28,[],0,zT,[],[x],a⟩ ((9,[114,101,116,117,114,110]) ::(w++[(8,[59])])):=a5A fun l size n k rest h hP hk hn=>by
 simp only[apC]at h;show S1 _ (A9 n _ l k size);unfold A9;have h1:=h.up;have hk1:=h1.le;have hh:=hh ((8,[59])::rest);exact rdk
def KWL:List Str:=[[108,101,116],[118,97,114],[105,102],[109,97,116,99,104],[100,101,102,101,114],[119,104,105,108,101],[114,101,116,117,114,110],[116,104,114,111,119],[100,111]]
def EH (w:List WK):Prop:=∃p r,w=p::r/\(p.1≠9∨p.2 ∉ KWL)
theorem c6w (hl:l.length<=3000)(hk:k<=l.length){p:WK}(K:kt (l.drop k)=p::r)(h:p.1≠9∨p.2 ∉ KWL):∃u,u ∉ KWL/\((C9 0 9 [] l k size).bind fun r4=>cond r4 ((idx' l (k:Int)).bind fun x5=>some x5.text) (some []))=some u:=by
 have hk1:=Y1 K;by_cases h9:p.1=9
 ·refine⟨p.2,h.resolve_left fun g=>g h9,?_⟩;rw[a2Q hl hk,ikY K (show nk (p::r) 9=true from decide_eq_true h9)];simp only[NF,a4Y (show k<l.length from hk1),a6n K]
 ·refine⟨[],by decide,?_⟩;rw[a2Q hl hk,ikF K (show nk (p::r) 9=false from decide_eq_false h9)];simp only[NF]
theorem rs_sole (h:RE x w)(hh:EH w):RSt ⟨23,[],0,zT,[],[x],a⟩ (w++[(8,[59])]):=by
 intro l size n k rest hl hk K hr hn;obtain⟨n,rfl⟩:∃q,n=q+1:=⟨n-1,by omega⟩
 have K:kt (l.drop k)=w ++((8,[59])::rest):=by rw[K];simp
 obtain⟨y,e,he⟩:=h hl hk K (a7A (.inr (.inr (.inl rfl)))) (show _<=n by omega) (size:=size);have hk1:=a0G K hk;have K1:=X4 K;obtain⟨p,r,rfl,hp⟩:=hh;obtain⟨u,hu,eu⟩:=c6w (size:=size) hl hk (show _=p ::(r ++((8,[59])::rest))from K) hp;simp only[KWL,List.mem_cons,List.not_mem_nil,or_false,not_or]at hu;obtain⟨u1,u2,u3,u4,u5,u6,u7,u8,u9⟩:=hu;refine⟨⟨23,[],0,zT,[],[y],y.at_⟩,?_,er5 (b60 he)⟩;have hq:k+(p::r).length+1=k+(p::r++[(8,[59])]).length:=by simp only[lnC];omega
 show A9 n (j3.fs n) l k size=_;unfold A9;rw[eu];simp only[NF,b6Y,decide_eq_false u1,decide_eq_false u2,decide_eq_false u3,decide_eq_false u4,decide_eq_false u5,decide_eq_false u6,decide_eq_false u7,decide_eq_false u8,decide_eq_false u9];rw[e];simp only[NF,a3Y hl hk1,isF (kd:=8) (s:=[61]) K1 rfl,a1R hl hk1,isY K1 a3A,hq]
theorem c4H (h:PLC x):∀(m:Nat) (y:Nod),y.er=x.er->x.sz<m -> ∃z,a2S n m y=some z/\z.op=54:=by
 induction h with
 | @nm x hx =>
  intro m y he hm;obtain⟨m,rfl⟩:∃q,m=q+1:=⟨m-1,by omega⟩
  have h1:=(a4D he).1;refine⟨y,?_,h1.trans hx⟩;rw[a2S.eq_2,a1t (by rw[h1,hx];decide)];rfl
 | @fld s n a t ts x hx ih =>
  intro m y he hm;obtain⟨m,rfl⟩:∃q,m=q+1:=⟨m-1,by omega⟩
  obtain⟨h1,_,_,_,_,h6⟩:=a4D he;rw[nsz,a4V]at hm;rcases hy:y.l with _ |⟨w,_ |⟨w2,r⟩⟩
  ·rw[hy]at h6;simp[ers]at h6
  ·rw[hy]at h6;have h7:w.er=x.er:=by simpa [ers]using h6
   rw[a2S.eq_2,a0z h1];simp only[NF,hy,show idx' [w] 0=some w from a0k (l:=[w]) (i:=0) Nat.zero_lt_one];exact ih m w h7 (by omega)
  ·rw[hy]at h6;simp[ers]at h6
theorem c7G {y:Nod}(h:RE x w)(hp:PLC x)(hz:x.sz<=100000)(g:RE y v)(hh:EH w):RSt ⟨22,[],0,zT,[],[x,y],a⟩ (w ++((8,[61]) ::(v++[(8,[59])]))):=by
 intro l size n k rest hl hk K hr hn;obtain⟨n,rfl⟩:∃q,n=q+1:=⟨n-1,by omega⟩
 have K:kt (l.drop k)=w ++((8,[61]) ::(v ++((8,[59])::rest))):=by rw[K];simp
 obtain⟨y1,e,he⟩:=h hl hk K (a7A (.inr (.inr (.inr (.inr rfl))))) (show _<=n by omega) (size:=size);have hk1:=a0G K hk;have K1:=X4 K;have hk2:=Y1 K1;have K2:=Z7 K1;obtain⟨y2,e2,he2⟩:=g hl hk2 K2 (a7A (.inr (.inr (.inl rfl)))) (show _<=n by omega) (size:=size);have hk3:=a0G K2 hk2;have K3:=X4 K2;obtain⟨z,ez,hz2⟩:=c4H (n:=n) hp n y1 he (by omega);have ep:a4Q n y1=some true:=by unfold a4Q;rw[ez];simp only[NF];rw[a0z hz2]
 obtain⟨p,r,rfl,hp⟩:=hh;obtain⟨u,hu,eu⟩:=c6w (size:=size) hl hk (show _=p ::(r ++((8,[61]) ::(v ++((8,[59])::rest))))from K) hp;simp only[KWL,List.mem_cons,List.not_mem_nil,or_false,not_or]at hu;obtain⟨u1,u2,u3,u4,u5,u6,u7,u8,u9⟩:=hu;refine⟨⟨22,[],0,zT,[],[y1,y2],y1.at_⟩,?_,er5 (ers2 he he2)⟩;have hq:k+(p::r).length+1+v.length+1=k+(p::r ++((8,[61]) ::(v++[(8,[59])]))).length:=by simp only[lnC];omega
 show A9 n (j3.fs n) l k size=_;unfold A9;rw[eu];simp only[NF,b6Y,decide_eq_false u1,decide_eq_false u2,decide_eq_false u3,decide_eq_false u4,decide_eq_false u5,decide_eq_false u6,decide_eq_false u7,decide_eq_false u8,decide_eq_false u9];rw[e];simp only[NF,a3Y hl hk1,isY K1 a3A,ep,H6 (show k+(p::r).length<=1000000000000 by omega)];rw[e2];simp only[NF];rw[a3Z (by simp) (by simp) (by omega)];simp only[NF,a1R hl hk3,isY K3 a3A,hq];rfl
abbrev RC:=RX 28 NSt j3.J6
theorem rc_if2 (h:RE x w)(g:RBl b v):RC ⟨24,[],0,zT,[],[x,b],a⟩ ((9,[105,102]) ::(w++v)):=a5A fun l size n k rest h hP hk hn=>by
 simp only[apC]at h;show S1 _ (M7 n _ l k size);unfold M7;exact rdk
theorem rc_if3 (h:RE x w)(g:RBl b v)(f:RBl c u):RC ⟨24,[],0,zT,[],[x,b,c],a⟩ ((9,[105,102]) ::(w ++(v ++((9,[101,108,115,101])::u)))):=a5A fun l size n k rest h hP hk hn=>by
 simp only[apC]at h;show S1 _ (M7 n _ l k size);unfold M7;have nb:nx (u++rest) 9 [105,102]=false:=by obtain⟨_,q,rfl⟩:=f;rfl
 exact rdk
theorem rc_if4 (h:RE x w)(g:RBl b v)(f:RC c ((9,[105,102])::u)):RC ⟨24,[],0,zT,[],[x,b,c],a⟩ ((9,[105,102]) ::(w ++(v ++((9,[101,108,115,101]) ::(9,[105,102])::u)))):=a5A fun l size n k rest h hP hk hn=>by
 simp only[apC]at h;show S1 _ (M7 n _ l k size);unfold M7;have lt1:=fun{k:Nat} (h:At l k ((9,[105,102]) ::(u++rest))) (hn:200000+40*(l.length-k)+28<=n)=>of_rx (size:=size) f (rest:=rest) h hP hn;exact rdk
def RAm (x:Nod)(w:List WK):Prop:=∃p b u v a,x =⟨27,[],0,zT,[],[p,b],a⟩/\RT p u/\RBl b v/\w =(9,[99,97,115,101]) ::(u++v)
theorem match_lp {rest:List WK}(hv:V3 RAm xs vs):∀(m k:Nat) (acc:List Nod),At l k (vs.flatten ++((8,[125])::rest))->200000+40*(l.length-k)<=n->xs.length<m->acc.length+xs.length<=9000->S1 (RL_ mkC l (acc++xs) ((8,[125])::rest)) (a0K n (j3.fs n) size l m k acc):=by
 induction hv with
 | nil =>
  intro m k acc h hn hm ha;obtain⟨m,rfl⟩:∃q,m=q+1:=⟨m-1,by omega⟩
  have h:At l k ((8,[125])::rest):=h;have hk:=h.le;rw[a0K.eq_2];exact rdk
 | @cons x w xs vs hg hv ih =>
  intro m k acc h hn hm ha;obtain⟨m,rfl⟩:∃q,m=q+1:=⟨m-1,by omega⟩
  obtain⟨p,b,u,v,a,rfl,h1,h2,rfl⟩:=hg;simp only[List.length_cons]at hm ha;simp only[List.flatten_cons,List.append_assoc,List.cons_append]at h;have hk:=h.le;have hu:=h.up;have hku:=hu.le;have nb:nx (v ++(vs.flatten ++((8,[125])::rest))) 8 [40]=false:=(ne_blk h2).1.2;have ih:=fun k acc h hl hn=>ih m k acc h hn (by omega) hl;rw[a0K.eq_2];exact rdk
theorem rm_match (h:RE x w)(g:V3 RAm xs vs)(hx:xs.length<=8000):RX 26 T1 j3.U2 ⟨26,[],0,zT,[],x::xs,a⟩ ((9,[109,97,116,99,104]) ::(w ++((8,[123]) ::(vs.flatten++[(8,[125])])))):=a5A fun l size n k rest A hP hk hn=>by
 simp only[apC]at A;have ls1:=fun{k:Nat} {acc:List Nod} (h:At l k (vs.flatten ++((8,[125])::rest))) (hn:200000+40*(l.length-k)<=n) (ha:acc.length<=10)=>match_lp (size:=size) (n:=n) g n k acc h hn (by omega) (by omega);show S1 _ (a1w n _ l k size);unfold a1w;exact rdk
end Go.Proofs.YtjhfloacokgdiaaGreatDoor
namespace Go.Proofs.YtjhfloacokgdiaaGreatDoor
open Go Go.Vm Pr
variable {α:Type} {vs:List (List WK)} {a w:List WK} {x y:Nod} {t:Typ}
theorem a1u {o:Int}{s:Str}{n:Int}{ts:List Typ}{l:List Nod}{a:Int}(h:y.er =(⟨o,s,n,t,ts,l,a⟩:Nod).er):∃l' a',y =⟨o,s,n,t,ts,l',a'⟩/\ers l'=ers l:=by
 obtain⟨h1,h2,h3,h4,h5,h6⟩:=a4D h;obtain⟨o',s',n',t',ts',l',a'⟩:=y;simp only at h1 h2 h3 h4 h5 h6;subst h1;subst h2;subst h3;subst h4;subst h5;exact⟨l',a',rfl,h6⟩
theorem a2f {l:List Nod}(h:ers l=ers []):l=[]:=by cases l with
 | nil=>rfl
 | cons a r=>simp[ers]at h
theorem a6r {l r:List Nod}(h:ers l=ers (x::r)):∃x' r',l=x'::r'/\x'.er=x.er/\ers r'=ers r:=by cases l with
 | nil=>simp[ers]at h
 | cons a q=>simp only[ers,List.cons.injEq]at h;exact⟨a,q,rfl,h.1,h.2⟩
theorem a7U {l:List Nod}(h:ers l=ers [x]):∃x',l=[x']/\x'.er=x.er:=by
 obtain⟨x',r,rfl,h1,h2⟩:=a6r h;cases a2f h2;exact⟨x',rfl,h1⟩
theorem b61 {l:List Nod}(h:ers l=ers [x,y]):∃x' y',l=[x',y']/\x'.er=x.er/\y'.er=y.er:=by
 obtain⟨x',r,rfl,h1,h2⟩:=a6r h;obtain⟨y',rfl,h3⟩:=a7U h2;exact⟨x',y',rfl,h1,h3⟩
theorem ers_3 {l:List Nod}{z:Nod}(h:ers l=ers [x,y,z]):∃x' y' z',l=[x',y',z']/\x'.er=x.er/\y'.er=y.er/\z'.er=z.er:=by
 obtain⟨x',r,rfl,h1,h2⟩:=a6r h;obtain⟨y',z',rfl,h3,h4⟩:=b61 h2;exact⟨x',y',z',rfl,h1,h3,h4⟩
theorem b2m {q:List Nod}:∀{p l:List Nod},ers l=ers (p++q) -> ∃p' q',l=p'++q'/\ers p'=ers p/\ers q'=ers q
 | [],l,h=>⟨[],l,rfl,rfl,h⟩
 | x::p,l,h=>by
  obtain⟨x',r,rfl,h1,h2⟩:=a6r h;obtain⟨p',q',rfl,h3,h4⟩:=b2m h2;exact⟨x'::p',q',rfl,by simp only[ers,h1,h3],h4⟩
def PE (P:Nod->List WK->Prop)(x:Nod)(w:List WK):Prop:=∀y,y.er=x.er->P y w
theorem a3E {P:Nod->List WK->Prop}{l:List Nod}(h:V3 (PE P) l vs):∀{l':List Nod},ers l'=ers l->V3 P l' vs:=by
 induction h with
 | nil=>intro l' h;cases a2f h;exact .nil
 | cons h1 _ ih =>
  intro l' h;obtain⟨x',r,rfl,g1,g2⟩:=a6r h;exact .cons (h1 _ g1) (ih g2)
theorem R9:∀l:List Nod,2*l.length<=szN l
 | []=>Nat.le_refl _
 | x::r=>by have:=R9 r;have:=x.sz2;simp only[szN,List.length_cons];omega
def SGL:List Str:=[[44],[46],[58],[59],[61],[38],[33],[45],[123],[125],[91],[93],[60],[62],[45,62],[124,124],[38,38],[61,61],[33,61],[60,61],[62,61],[43],[42],[47],[37]]
def KYL:List Str:=[[116,114,117,101],[102,97,108,115,101],[99,111,110,115,117,109,101],[97,110,121],[105,110],[105,110,111,117,116],[108,101,116],[118,97,114],[105,102],[101,108,115,101],[109,97,116,99,104],[99,97,115,101],[100,101,102,101,114],[119,104,105,108,101],[114,101,116,117,114,110],[116,104,114,111,119],[100,111],[99,97,116,99,104],[102,117,110,99],[116,104,114,111,119,115],[119,104,101,114,101],[116,121,112,101],[115,116,114,117,99,116],[101,110,117,109],[99,108,97,115,115],[112,114,111,116,111,99,111,108],[101,120,116,101,110,100],[109,111,118,101,111,110,108,121],[102,114,111,122,101,110],[100,101,105,110,105,116],[105,110,100,105,114,101,99,116]]
def KO (V:Int->Str->Prop)(p:WK):Prop:=(p.1=1∨p.1=2∨p.1=3∨p.1=4)/\V p.1 p.2∨p.1=8/\p.2∈SGL∨p.1=9/\p.2∈KYL∨p =(1,[95])
inductive Bal (V:Int->Str->Prop):List WK->Prop
 | nil:Bal V []
 | tok {p:WK} {r:List WK}:KO V p->Bal V r->Bal V (p::r)
 | par {w r:List WK}:Bal V w->Bal V r->Bal V ((8,[40]) ::(w ++((8,[41])::r)))
 | int {s:Str} {vs:List (List WK×Str)} {r:List WK}:V 4 s->vs ≠ [] ->(∀v∈vs,Bal V v.1) ->(∀v∈vs,V 4 v.2)->Bal V r->Bal V ((5,s) ::(iw vs++r))
section
variable {V:Int->Str->Prop}
theorem Bal.app {b:List WK}(h:Bal V a)(g:Bal V b):Bal V (a++b):=by
 induction h with
 | nil=>exact g
 | tok h1 _ ih=>exact .tok h1 ih
 | par h1 h2 _ ih2=>have:=Bal.par h1 ih2;simpa using this
 | int h1 h2 h3 h4 h5 _ ih=>have:=Bal.int h1 h2 h3 h4 ih;simpa using this
theorem Bal.s {s:Str}{r:List WK}(hs:s∈SGL)(h:Bal V r):Bal V ((8,s)::r):=.tok (.inr (.inl ⟨rfl,hs⟩)) h
theorem Bal.k {s:Str}{r:List WK}(hs:s∈KYL)(h:Bal V r):Bal V ((9,s)::r):=.tok (.inr (.inr (.inl ⟨rfl,hs⟩))) h
theorem Bal.v {k:Int}{s:Str}{r:List WK}(hk:k=1∨k=2∨k=3∨k=4)(hs:V k s)(h:Bal V r):Bal V ((k,s)::r):=.tok (.inl ⟨hk,hs⟩) h
theorem Bal.p {r:List WK}(h:Bal V w)(g:Bal V r):Bal V ((8,[40]) ::(w ++((8,[41])::r))):=.par h g
theorem Bal.p1 (h:Bal V w):Bal V ((8,[40]) ::(w++[(8,[41])])):=.par h .nil
theorem bal_cm (h:∀w∈vs,Bal V w):Bal V (cm vs):=by
 induction vs with
 | nil=>exact .nil
 | cons w r ih=>rw[a3h];exact .s (by decide) ((h w (by simp)).app (ih fun x hx=>h x (by simp[hx])))
theorem b3X (h:∀w∈vs,Bal V w):Bal V (jo vs):=by
 cases vs with
 | nil=>exact .nil
 | cons w r=>rw[a7V];exact(h w (by simp)).app (bal_cm fun x hx=>h x (by simp[hx]))
theorem b2g (h:∀w∈vs,Bal V w):Bal V (cw vs):=.p1 (b3X h)
theorem b6O (h:∀w∈vs,Bal V w):Bal V vs.flatten:=by
 induction vs with
 | nil=>exact .nil
 | cons w r ih=>rw[List.flatten_cons];exact(h w (by simp)).app (ih fun x hx=>h x (by simp[hx]))
theorem a5o {R:α->List WK->Prop}{Q:List WK->Prop}{l:List α}(h:V3 R l vs)(hq:∀a w,R a w->Q w):∀w∈vs,Q w:=by
 induction h with
 | nil=>intro w hw;cases hw
 | cons h1 _ ih =>
  intro w hw;rcases List.mem_cons.1 hw with rfl|hw
  ·exact hq _ _ h1
  ·exact ih w hw
theorem a7S:∀{b:Bool} {t:Typ},GT V b t->Bal V (W t):=by
 intro b t h;induction h with
 | @base s a h1 h2 ih =>
  rw[b6B];refine .v (.inr (.inl rfl)) h1 ?_;cases a with
  | nil=>exact .nil
  | cons t r =>
   have ea:an (WW (t::r)) =(8,[60]) ::(jo (WW (t::r))++[(8,[62])]):=by rw[WW];rfl
   rw[ea];refine .s (by decide) ((b3X fun w hw=>?_).app (.s (by decide) .nil));rw[a5n]at hw;obtain⟨x,hx,rfl⟩:=List.mem_map.1 hw;exact ih x hx
 | @dot s t h1 h2 ih =>
  have e:W ⟨8,s,0,[t]⟩=W t++[(8,[46]),(2,s)]:=by rw[b6D];simp[wk,WW,jo]
  rw[e];exact ih.app (.s (by decide) (.v (.inr (.inl rfl)) h1 .nil))
 | path _ ih=>exact ih
 | any h=>rw[b6D];exact .k (by decide) (.v (.inr (.inl rfl)) h .nil)
 | @func a r h1 h2 ih1 ih2 =>
  rw[W_func];refine .par (b3X fun w hw=>?_) (.s (by decide) ih2);rw[a5n]at hw;obtain⟨x,hx,rfl⟩:=List.mem_map.1 hw;exact ih1 x hx
theorem bal_rs (h:t=uT∨GT V false t):Bal V (rsw t):=by
 unfold rsw;cases hk:eqB t.kind 4
 ·rcases h with rfl|h
  ·rw[a0z rfl]at hk;cases hk
  ·exact .s (by decide) (a7S h)
 ·exact .nil
def HLx:List WK:=[(8,[40]),(8,[91]),(8,[123]),(8,[45]),(8,[33]),(9,[116,114,117,101]),(9,[102,97,108,115,101]),(9,[99,111,110,115,117,109,101])]
def HX (w:List WK):Prop:=∃p r,w=p::r/\((p.1=1∨p.1=2∨p.1=3∨p.1=4∨p.1=5)∨p∈HLx)
theorem b5K (h:HX w){kd:Int}{s:Str}(h1:kd=8∨kd=9)(h2:(kd,s) ∉ HLx)(r:List WK):nx (w++r) kd s=false:=by
 obtain⟨p,q,rfl,hp⟩:=h;show(decide (p.1=kd)&&decide (p.2=s))=false;rcases hp with hp|hp
 ·rw[decide_eq_false (by omega)];rfl
 ·by_cases e:p.1=kd/\p.2=s
  ·exact absurd (show(kd,s)∈HLx by rw[<-e.1,<-e.2];exact hp) h2
  ·by_cases e1:p.1=kd
   ·rw[decide_eq_false (show ¬p.2=s from fun g=>e ⟨e1,g⟩),Bool.and_false]
   ·rw[decide_eq_false e1];rfl
theorem hx_eh (h:HX w)(r:List WK):EH (w++r):=by
 obtain⟨p,q,rfl,hp⟩:=h;refine⟨p,q++r,rfl,?_⟩;rcases hp with hp|hp
 ·left;omega
 ·by_cases h9:p.1=9
  ·right;simp only[HLx,List.mem_cons,List.not_mem_nil,or_false]at hp;rcases hp with rfl|rfl|rfl|rfl|rfl|rfl|rfl|rfl<;>first |(exact absurd h9 (by decide))|decide
  ·exact .inl h9
def NU (w:List WK):Prop:=∀r,nx (w++r) 8 [45]=false/\nx (w++r) 8 [33]=false
structure XR (V:Int->Str->Prop)(x:Nod)(w:List WK):Prop where
 p:PE PX x w
 u:RU x w
 hd:HX w
 l:x.op≠65->x.op≠66->RL x w/\NU w
 pl:PLC x->RP x w
 b:Bal V w
structure SR (V:Int->Str->Prop)(x:Nod)(w:List WK):Prop where
 p:PE PS x w
 r:SH x w
 b:Bal V w
structure BR (V:Int->Str->Prop)(x:Nod)(w:List WK):Prop where
 p:PE PB x w
 r:RBl x w
 b:Bal V w
 o:x.op=20
 e:∃u,w=u++[(8,[125])]
structure TR (V:Int->Str->Prop)(x:Nod)(w:List WK):Prop where
 p:PE PT x w
 r:RT x w
 b:Bal V w
structure MR (V:Int->Str->Prop)(x:Nod)(w:List WK):Prop where
 p:PE PM x w
 r:RM V x w
 b:Bal V w
structure AR (V:Int->Str->Prop)(x:Nod)(w:List WK):Prop where
 p:PE PA x w
 r:RAm x w
 b:Bal V w
structure GR (V:Int->Str->Prop)(x:Nod)(w:List WK):Prop where
 p:PE PX x w
 r:RG x w
 b:Bal V w
structure CR (V:Int->Str->Prop)(x:Nod)(w:List WK):Prop where
 p:PE PS x w
 r:RC x w
 b:Bal V w
 o:x.op=24
 h:∃u,w =(9,[105,102])::u
theorem XR.e (h:XR V x w):RE x w:=re_of h.u
theorem c0R (h:PLC x):x.op=54∨x.op=55:=by
 cases h with
 | nm h=>exact .inl h
 | fld _=>exact .inr rfl
theorem mkX (p:PE PX x w)(rl:RL x w)(hd:HX w)(nu:NU w)(h54:decide (x.op=54)=false)(h55:decide (x.op=55)=false)(b:Bal V w):XR V x w:=⟨p,ru_of rl (fun r=>(nu r).1) fun r=>(nu r).2,hd,fun _ _=>⟨rl,nu⟩,fun h=>(c0R h).elim (absurd · (of_decide_eq_false h54)) (absurd · (of_decide_eq_false h55)),b⟩
theorem mkA (p:PE PX x w)(ra:RAN x w)(hd:HX w)(nu:NU w)(h54:decide (x.op=54)=false)(h55:decide (x.op=55)=false)(b:Bal V w):XR V x w:=mkX p (rl_of ra (by obtain⟨p,r,rfl,_⟩:=hd;simp)) hd nu h54 h55 b
theorem rcv (h:XR V x w):RL x (rwd x w)/\NU (rwd x w)/\HX (rwd x w)/\Bal V (rwd x w):=by
 unfold rwd;cases hb:(eqB x.op 61||eqB x.op 63||eqB x.op 66||eqB x.op 65)
 ·simp only[Bool.or_eq_false_iff]at hb;obtain⟨⟨⟨_,_⟩,h1⟩,h2⟩:=hb;obtain⟨g1,g2⟩:=h.l (fun e=>by rw[a0z e]at h2;cases h2) (fun e=>by rw[a0z e]at h1;cases h1);exact⟨g1,g2,h.hd,h.b⟩
 ·exact⟨rl_of (b7S h.e).n (by simp),fun r=>⟨rfl,rfl⟩,⟨_,_,rfl,.inr (by decide)⟩,.p1 h.b⟩
theorem nu_app {b:List WK}(h:NU a):NU (a++b):=fun r=>by rw[List.append_assoc];exact h _
theorem b5h {b:List WK}(h:HX a):HX (a++b):=by
 obtain⟨p,r,rfl,h⟩:=h;exact⟨p,r++b,rfl,h⟩
theorem rwd_op (h:y.er=x.er):rwd y w=rwd x w:=by unfold rwd;rw[(a4D h).1]
theorem hx_W (h:GT V true t)(r:List WK):HX (W t++r)/\NU (W t++r):=by
 obtain⟨u,q,e⟩:=W_two h;rw[e];exact⟨⟨_,_,rfl,.inl (.inr (.inl rfl))⟩,fun r=>⟨rfl,rfl⟩⟩
structure VO (V:Int->Str->Prop):Prop where
 n3:∀{s},V 3 s->NumW s
 d3:∀{s},V 3 s->b4x s=true
 t4:∀{s},V 4 s->s.length<=20000
def REC (V:Int->Str->Prop)(c:Nat)(x:Nod):Prop:=match c with
 | 0=>∃w,XR V x w
 | 1=>∃w,SR V x w
 | 2=>∃w,BR V x w
 | 3=>∃w,TR V x w
 | 4=>∃w,MR V x w
 | 5=>∃w,AR V x w
 | 6=>∃w,GR V x w
 | 19=>∃w,CR V x w
 | _=>True
theorem a7C {R:Nod->List WK->Prop}{l:List Nod}{N:Nat}(h:∀y∈l,y.sz<=N -> ∃w,R y w)(hl:szN l<=N):∃vs,V3 R l vs:=b6f fun y hy=>h y hy (by have:=a1Q hy;omega)
theorem b7X {l:List Nod}(h:V3 (GR V) l vs)(hz:szN l<=12000):RGs 9 l (cw vs):=rg_args (h.imp fun _ _ _ g=>g.r) (by have:=R9 l;omega)
theorem gt_kd {b:Bool}(h:GT V b t):t.kind≠0:=by
 induction h with
 | @base s a h1 h2 =>
  show kindOf s a≠0;unfold kindOf;cases(eqB (a.length:Int) 0&&eqS s [73,110,116])<;>cases(eqB (a.length:Int) 0&&eqS s [66,111,111,108])<;>cases(eqB (a.length:Int) 0&&eqS s [84,101,120,116])<;>cases(eqB (a.length:Int) 0&&eqS s [85,110,105,116])<;>cases(eqB (a.length:Int) 1&&eqS s [65,114,114,97,121])<;>cases(eqB (a.length:Int) 1&&eqS s [87,101,97,107])<;>decide
 | dot _ _=>simp
 | path _ ih=>exact ih
 | any _=>simp
 | func _ _=>simp
theorem b1r {n:Int}:∀{l l':List Nod},ers l'=ers l ->(∀x∈l,x.op=n) -> ∀x∈l',x.op=n
 | [],l',h,_=>by cases a2f h;intro x hx;cases hx
 | y::r,l',h,g=>by
  obtain⟨x',r',rfl,h1,h2⟩:=a6r h;intro x hx;rcases List.mem_cons.1 hx with rfl|hx
  ·rw[(a4D h1).1];exact g y (by simp)
  ·exact b1r h2 (fun z hz=>g z (by simp[hz])) x hx
theorem fl_sz:∀{ps:List (Nod×Nod)} {p:Nod×Nod},p∈ps->p.1.sz<=szN (fl ps)
 | q::r,p,h=>by
  rw[fl,a4V,a4V];rcases List.mem_cons.1 h with rfl|h
  ·omega
  ·have:=fl_sz h;omega
def RPv (V:Int->Str->Prop)(p:Nod×Nod)(v:List WK×Str):Prop:=XR V p.1 v.1/\(∃a,p.2 =⟨52,v.2,0,zT,[],[],a⟩)/\V 4 v.2
theorem fl_er (vo:VO V){ps:List (Nod×Nod)}{vs:List (List WK×Str)}(h:V3 (RPv V) ps vs):∀{l':List Nod},ers l'=ers (fl ps) -> ∃ps',l'=fl ps'/\V3 PI ps' vs:=by
 induction h with
 | nil=>intro l' h;cases a2f h;exact⟨[],rfl,.nil⟩
 | @cons p v ps vs h1 h2 ih =>
  intro l' h;rw[fl]at h;obtain⟨x',r,rfl,g1,g2⟩:=a6r h;obtain⟨y',r',rfl,g3,g4⟩:=a6r g2;obtain⟨ps',rfl,g5⟩:=ih g4;obtain⟨k1,⟨a,k2⟩,k3⟩:=h1;rw[k2]at g3;obtain⟨l0,b,rfl,g6⟩:=a1u g3;cases a2f g6;exact⟨(x',⟨52,v.2,0,zT,[],[],b⟩)::ps',rfl,.cons ⟨k1.p _ g1,⟨b,rfl⟩,vo.t4 k3⟩ g5⟩
theorem all2_q {β:Type}{R:α->β->Prop}{Q:β->Prop}{l:List α}{vs:List β}(h:V3 R l vs)(hq:∀a w,R a w->Q w):∀w∈vs,Q w:=by
 induction h with
 | nil=>intro w hw;cases hw
 | cons h1 _ ih =>
  intro w hw;rcases List.mem_cons.1 hw with rfl|hw
  ·exact hq _ _ h1
  ·exact ih w hw
theorem b5u {s:Str}(hs:s ≠ [101,108,115,101])(h:RSt x ((9,s)::w)):SH x ((9,s)::w):=⟨h,fun r=>rfl,fun r=>by
 show(decide ((9:Int)=9)&&decide (s=_))=false;rw[decide_eq_false hs,Bool.and_false]⟩
theorem gx_x (vo:VO V):∀{c:Nat} {x:Nod},G V c x->x.sz<=12000->REC V c x:=by
 intro c x h;induction h with
 | @int s a h =>
  intro _;refine⟨[(3,s)],mkA (fun y hy=>?_) (ra_int (vo.d3 h)).n ⟨_,_,rfl,.inl (.inr (.inr (.inl rfl)))⟩ (fun r=>⟨rfl,rfl⟩) rfl rfl (.v (.inr (.inr (.inl rfl))) h .nil)⟩;obtain⟨l',b,rfl,hl⟩:=a1u hy;cases a2f hl;exact px_int (vo.n3 h)
 | @tru a =>
  intro _;refine⟨_,mkA (fun y hy=>?_) ra_tru.n ⟨_,_,rfl,.inr (by decide)⟩ (fun r=>⟨rfl,rfl⟩) rfl rfl (.k (by decide) .nil)⟩;obtain⟨l',b,rfl,hl⟩:=a1u hy;cases a2f hl;exact px_tru
 | @fal a =>
  intro _;refine⟨_,mkA (fun y hy=>?_) ra_fal.n ⟨_,_,rfl,.inr (by decide)⟩ (fun r=>⟨rfl,rfl⟩) rfl rfl (.k (by decide) .nil)⟩;obtain⟨l',b,rfl,hl⟩:=a1u hy;cases a2f hl;exact px_fal
 | @text s a h =>
  intro _;refine⟨[(4,s)],mkA (fun y hy=>?_) ra_text.n ⟨_,_,rfl,.inl (.inr (.inr (.inr (.inl rfl))))⟩ (fun r=>⟨rfl,rfl⟩) rfl rfl (.v (.inr (.inr (.inr rfl))) h .nil)⟩;obtain⟨l',b,rfl,hl⟩:=a1u hy;cases a2f hl;exact px_text (vo.t4 h)
 | @name s a h =>
  intro _;have rl:RL ⟨54,s,0,zT,[],[],a⟩ [(1,s)]:=rl_of c6o.n (by simp);refine⟨[(1,s)],fun y hy=>?_,ru_of rl (fun _=>rfl) (fun _=>rfl),⟨_,_,rfl,.inl (.inl rfl)⟩,fun _ _=>⟨rl,(fun r=>⟨rfl,rfl⟩)⟩,fun _=>rp_name,.v (.inl rfl) h .nil⟩;obtain⟨l',b,rfl,hl⟩:=a1u hy;cases a2f hl;exact px_name
 | @cons s a h =>
  intro _;refine⟨_,mkA (fun y hy=>?_) ra_cons.n ⟨_,_,rfl,.inr (by decide)⟩ (fun r=>⟨rfl,rfl⟩) rfl rfl (.k (by decide) (.v (.inl rfl) h .nil))⟩;obtain⟨l',b,rfl,hl⟩:=a1u hy;cases a2f hl;exact px_cons
 | @bin s x y a ho h1 h2 ih1 ih2 =>
  intro hz;simp only[SZ]at hz;obtain⟨w,g1⟩:=ih1 (by omega);obtain⟨v,g2⟩:=ih2 (by omega);refine⟨_,mkA (fun z hy=>?_) (ra_bin ho g1.u g2.u).n ⟨_,_,rfl,.inr (by decide)⟩ (fun r=>⟨rfl,rfl⟩) rfl rfl ?_⟩
  ·obtain⟨l',b,rfl,hl⟩:=a1u hy;obtain⟨x',y',rfl,e1,e2⟩:=b61 hl;exact px_bin (g1.p _ e1) (g2.p _ e2)
  ·have hs:s∈SGL:=by refine b0g (P:=fun s=>s∈SGL) ho ?_ ?_ ?_ ?_ ?_ ?_ ?_ ?_ ?_ ?_ ?_ ?_ ?_<;>decide
   have:=Bal.p1 (g1.b.app (.s hs g2.b));simpa using this
 | @un o x a ho h ih =>
  intro hz;simp only[SZ]at hz;obtain⟨w,g⟩:=ih (by omega);rcases ho with rfl|rfl
  ·refine⟨(8,[33])::w,fun z hy=>?_,ru_un (.inl ⟨rfl,rfl⟩) g.u,⟨_,_,rfl,.inr (by decide)⟩,fun h=>absurd rfl h,fun h=>(by rcases c0R h with h|h<;>cases h),.s (by decide) g.b⟩;obtain⟨l',b,rfl,hl⟩:=a1u hy;obtain⟨x',rfl,e1⟩:=a7U hl;exact px_not (g.p _ e1)
  ·refine⟨(8,[45])::w,fun z hy=>?_,ru_un (.inr ⟨rfl,rfl⟩) g.u,⟨_,_,rfl,.inr (by decide)⟩,fun _ h=>absurd rfl h,fun h=>(by rcases c0R h with h|h<;>cases h),.s (by decide) g.b⟩;obtain⟨l',b,rfl,hl⟩:=a1u hy;obtain⟨x',rfl,e1⟩:=a7U hl;exact px_neg (g.p _ e1)
 | @field s x a hs h ih =>
  intro hz;simp only[SZ]at hz;obtain⟨w,g⟩:=ih (by omega);obtain⟨g1,g2,g3,g4⟩:=rcv g;have rl:=rl_field (s:=s) (a:=a) g1;have nu:NU (rwd x w++[(8,[46]),(1,s)]):=nu_app g2;refine⟨_,fun z hy=>?_,ru_of rl (fun r=>(nu r).1) (fun r=>(nu r).2),b5h g3,fun _ _=>⟨rl,nu⟩,fun hp=>?_,g4.app (.s (by decide) (.v (.inl rfl) hs .nil))⟩
  ·obtain⟨l',b,rfl,hl⟩:=a1u hy;obtain⟨x',rfl,e1⟩:=a7U hl;refine b4h (.inl rfl) ?_;rw[<-rwd_op e1];exact pu_field (g.p _ e1)
  ·have hp:PLC x:=by
    cases hp with
    | nm h=>cases h
    | fld h=>exact h
   have e:rwd x w=w:=by
    unfold rwd;rcases c0R hp with h|h<;>rw[h]<;>simp[eqB]
   rw[e];exact rp_field (g.pl hp)
 | @call s l a hs h ih =>
  intro hz;simp only[SZ]at hz;obtain⟨vs,g⟩:=a7C ih (show szN l<=12000 by omega);have hb:=b2g (a5o g fun _ _ h=>h.b);refine⟨_,mkX (fun z hy=>?_) (rl_call (b7X g (by omega))) ⟨_,_,rfl,.inl (.inl rfl)⟩ (fun r=>⟨rfl,rfl⟩) rfl rfl (.v (.inl rfl) hs hb)⟩;obtain⟨l',b,rfl,hl⟩:=a1u hy;exact b4h (.inr (.inl rfl)) (pu_call (a3E (g.imp fun _ _ _ h=>h.p) hl))
 | @method s x l a hs h1 h ih1 ih =>
  intro hz;simp only[SZ]at hz;obtain⟨w,g1⟩:=ih1 (by omega);obtain⟨vs,g⟩:=a7C ih (show szN l<=12000 by omega);have hb:=b2g (a5o g fun _ _ h=>h.b);obtain⟨k1,k2,k3,k4⟩:=rcv g1;refine⟨_,mkX (fun z hy=>?_) (rl_method k1 (b7X g (by omega))) (b5h k3) (nu_app k2) rfl rfl (k4.app (.s (by decide) (.v (.inl rfl) hs hb)))⟩;obtain⟨l',b,rfl,hl⟩:=a1u hy;obtain⟨x',r',rfl,e1,e2⟩:=a6r hl;refine b4h (.inr (.inr (.inl rfl))) ?_;rw[<-rwd_op e1];exact c7s (g1.p _ e1) (a3E (g.imp fun _ _ _ h=>h.p) e2)
 | @stat0 s t a hs ht =>
  intro hz;simp only[SZ]at hz;refine⟨_,mkA (fun z hy=>?_) (ra_stat0 ht (by omega)) (hx_W ht _).1 (hx_W ht _).2 rfl rfl ((a7S ht).app (.s (by decide) (.v (.inl rfl) hs .nil)))⟩;obtain⟨l',b,rfl,hl⟩:=a1u hy;cases a2f hl;exact b4h (.inr (.inr (.inr (.inl rfl)))) pu_stat0
 | @stat1 s t l a hs ht h ih =>
  intro hz;simp only[SZ]at hz;obtain⟨vs,g⟩:=a7C ih (show szN l<=12000 by omega);have hb:=b2g (a5o g fun _ _ h=>h.b);refine⟨_,mkA (fun z hy=>?_) (ra_stat1 ht (by omega) (b7X g (by omega))).n (hx_W ht _).1 (hx_W ht _).2 rfl rfl ((a7S ht).app (.s (by decide) (.v (.inl rfl) hs hb)))⟩;obtain⟨l',b,rfl,hl⟩:=a1u hy;exact b4h (.inr (.inr (.inr (.inl rfl)))) (pu_stat1 (a3E (g.imp fun _ _ _ h=>h.p) hl))
 | @make t l a ht h ih =>
  intro hz;simp only[SZ]at hz;obtain⟨vs,g⟩:=a7C ih (show szN l<=12000 by omega);have hb:=b2g (a5o g fun _ _ h=>h.b);refine⟨_,mkA (fun z hy=>?_) (ra_make ht (by omega) (b7X g (by omega))).n (hx_W ht _).1 (hx_W ht _).2 rfl rfl ((a7S ht).app hb)⟩;obtain⟨l',b,rfl,hl⟩:=a1u hy;exact b4h (.inr (.inr (.inr (.inr (.inl rfl))))) (pu_make (a3E (g.imp fun _ _ _ h=>h.p) hl))
 | @apply x l a h1 h ih1 ih =>
  intro hz;simp only[SZ]at hz;obtain⟨w,g1⟩:=ih1 (by omega);obtain⟨vs,g⟩:=a7C ih (show szN l<=12000 by omega);have hb:=b2g (a5o g fun _ _ h=>h.b);refine⟨_,mkX (fun z hy=>?_) (rl_apply g1.e (b7X g (by omega))) ⟨_,_,rfl,.inr (by decide)⟩ (fun r=>⟨rfl,rfl⟩) rfl rfl (.par g1.b hb)⟩;obtain⟨l',b,rfl,hl⟩:=a1u hy;obtain⟨x',r',rfl,e1,e2⟩:=a6r hl;exact b4h (.inr (.inr (.inr (.inr (.inr rfl))))) (pu_apply (g1.p _ e1) (a3E (g.imp fun _ _ _ h=>h.p) e2))
 | @list l a h ih =>
  intro hz;simp only[SZ]at hz;obtain⟨vs,g⟩:=a7C ih (show szN l<=12000 by omega);have hl2:=R9 l;refine⟨_,mkA (fun z hy=>?_) (ra_list (g.imp fun _ _ _ h=>⟨h.e,b5K h.hd (.inl rfl) (by decide)⟩) (by omega)).n ⟨_,_,rfl,.inr (by decide)⟩ (fun r=>⟨rfl,rfl⟩) rfl rfl (.s (by decide) ((b3X (a5o g fun _ _ h=>h.b)).app (.s (by decide) .nil)))⟩;obtain⟨l',b,rfl,hl⟩:=a1u hy;exact px_elist (a3E (g.imp fun _ _ _ h=>h.p) hl)
 | @lend x a h hp ih =>
  intro hz;simp only[SZ]at hz;obtain⟨w,g⟩:=ih (by omega);refine⟨(8,[38])::w,fun z hy=>?_,.inl ⟨x,w,a,rfl,rfl,g.pl hp⟩,.s (by decide) g.b⟩;obtain⟨l',b,rfl,hl⟩:=a1u hy;obtain⟨x',rfl,e1⟩:=a7U hl;exact px_lend (g.p _ e1)
 | @arg x h ih =>
  intro hz;obtain⟨w,g⟩:=ih hz;exact⟨w,g.p,.inr ⟨g.e,b5K g.hd (.inl rfl) (by decide),b5K g.hd (.inl rfl) (by decide)⟩,g.b⟩
 | @interp x ps a hx hp h1 h2 ih1 =>
  intro hz;simp only[SZ]at hz;cases hx with
  | @mk s b hs =>
   have hg:∃vs,V3 (RPv V) ps vs:=b6f fun p hp=>by
    obtain⟨w,g⟩:=ih1 p hp (by have:=fl_sz hp;omega);have g2:=h2 p hp;obtain⟨p1,p2⟩:=p;simp only at g g2;cases g2 with
    | @mk u c hu=>exact⟨(w,u),g,⟨c,rfl⟩,hu⟩
   obtain⟨vs,g⟩:=hg;have hfl:=c0n ps;have hl2:=R9 (fl ps);have hvp:vs ≠ []:=by intro e;subst e;cases g;exact hp rfl
   refine⟨(5,s)::iw vs,mkA (fun z hy=>?_) (c7w hp (g.imp fun _ _ _ h=>⟨h.1.e,h.2.1⟩) (by omega)).n ⟨_,_,rfl,.inl (.inr (.inr (.inr (.inr rfl))))⟩ (fun r=>⟨rfl,rfl⟩) rfl rfl ?_⟩
   ·obtain⟨l',b',rfl,hl⟩:=a1u hy;obtain⟨x',r',rfl,e1,e2⟩:=a6r hl;obtain⟨l0,b2,rfl,e3⟩:=a1u e1;cases a2f e3;obtain⟨ps',rfl,e4⟩:=fl_er vo g e2;refine c7u (vo.t4 hs) (fun e=>?_) e4;subst e;cases e4;exact hvp rfl
   ·have:=Bal.int (r:=[]) hs hvp (all2_q g fun _ _ h=>h.1.b) (all2_q g fun _ _ h=>h.2.2) .nil;simpa using this
 | @clos t ps ss a b ht h1 h2 ih1 ih2 =>
  intro hz;simp only[SZ]at hz;obtain⟨us,g1⟩:=a7C ih1 (show szN ps<=12000 by omega);obtain⟨vs,g2⟩:=a7C ih2 (show szN ss<=12000 by omega);have l1:=R9 ps;have l2:=R9 ss;have hb:=Bal.s (V:=V) (s:=[123]) (by decide) ((b2g (a5o g1 fun _ _ h=>h.b)).app ((bal_rs ht).app (.k (s:=[105,110]) (by decide) ((b6O (a5o g2 fun _ _ h=>h.b)).app (.s (s:=[125]) (by decide) .nil)))));refine⟨_,mkA (fun z hy=>?_) (ra_clos ht (by omega) (g1.imp fun _ _ _ h=>h.r) (by omega) (g2.imp fun _ _ _ h=>h.r) (by omega)).n ⟨_,_,rfl,.inr (by decide)⟩ (fun r=>⟨rfl,rfl⟩) rfl rfl hb⟩;obtain⟨l',b',rfl,hl⟩:=a1u hy;obtain⟨p',q',rfl,e1,e2⟩:=b2m hl;obtain⟨x',rfl,e3⟩:=a7U e2;obtain⟨s',b2,rfl,e4⟩:=a1u e3;exact px_clos (b1r e1 fun x hx=>by cases h1 x hx;rfl) (a3E (g1.imp fun _ _ _ h=>h.p) e1) (a3E (g2.imp fun _ _ _ h=>h.p) e4)
 | @let0 s t a hs ht =>
  intro hz;simp only[SZ]at hz;refine⟨_,fun z hy=>?_,b5u (by decide) (c4S (rl_var0 ht (by omega))),.k (by decide) (.v (.inl rfl) hs (.s (by decide) ((a7S ht).app (.s (by decide) .nil))))⟩;obtain⟨l',b,rfl,hl⟩:=a1u hy;cases a2f hl;exact ps_let0 (gt_kd ht)
 | @let1 s n t x a hs hn ht h ih =>
  intro hz;simp only[SZ]at hz;obtain⟨w,g⟩:=ih (by omega);rcases hn with rfl|rfl<;>rcases ht with rfl|ht
  ·refine⟨_,fun z hy=>?_,b5u (by decide) (rs_let (rl_letu g.e)),.k (by decide) (.v (.inl rfl) hs (.s (by decide) (g.b.app (.s (by decide) .nil))))⟩;obtain⟨l',b,rfl,hl⟩:=a1u hy;obtain⟨x',rfl,e1⟩:=a7U hl;exact ps_letu0 (g.p _ e1)
  ·refine⟨_,fun z hy=>?_,b5u (by decide) (rs_let (rl_lett ht (by omega) g.e)),.k (by decide) (.v (.inl rfl) hs (.s (by decide) ((a7S ht).app (.s (by decide) (g.b.app (.s (by decide) .nil))))))⟩;obtain⟨l',b,rfl,hl⟩:=a1u hy;obtain⟨x',rfl,e1⟩:=a7U hl;exact ps_lett0 (gt_kd ht) (g.p _ e1)
  ·refine⟨_,fun z hy=>?_,b5u (by decide) (c4S (rl_varu g.e)),.k (by decide) (.v (.inl rfl) hs (.s (by decide) (g.b.app (.s (by decide) .nil))))⟩;obtain⟨l',b,rfl,hl⟩:=a1u hy;obtain⟨x',rfl,e1⟩:=a7U hl;exact ps_letu1 (g.p _ e1)
  ·refine⟨_,fun z hy=>?_,b5u (by decide) (c4S (rl_vart ht (by omega) g.e)),.k (by decide) (.v (.inl rfl) hs (.s (by decide) ((a7S ht).app (.s (by decide) (g.b.app (.s (by decide) .nil))))))⟩;obtain⟨l',b,rfl,hl⟩:=a1u hy;obtain⟨x',rfl,e1⟩:=a7U hl;exact ps_lett1 (gt_kd ht) (g.p _ e1)
 | @assign x y a h1 hp h2 ih1 ih2 =>
  intro hz;simp only[SZ]at hz;obtain⟨w,g⟩:=ih1 (by omega);obtain⟨v,f⟩:=ih2 (by omega);refine⟨_,fun z hy=>?_,⟨c7G g.e hp (by omega) f.e (by have:=hx_eh g.hd [];rwa [List.append_nil]at this),b5K (b5h g.hd) (.inl rfl) (by decide),b5K (b5h g.hd) (.inr rfl) (by decide)⟩,g.b.app (.s (by decide) (f.b.app (.s (by decide) .nil)))⟩;obtain⟨l',b,rfl,hl⟩:=a1u hy;obtain⟨x',y',rfl,e1,e2⟩:=b61 hl;exact c7r (g.p _ e1) (f.p _ e2)
 | @sole x a h ih =>
  intro hz;simp only[SZ]at hz;obtain⟨w,g⟩:=ih (by omega);refine⟨_,fun z hy=>?_,⟨rs_sole g.e (by have:=hx_eh g.hd [];rwa [List.append_nil]at this),b5K (b5h g.hd) (.inl rfl) (by decide),b5K (b5h g.hd) (.inr rfl) (by decide)⟩,g.b.app (.s (by decide) .nil)⟩;obtain⟨l',b,rfl,hl⟩:=a1u hy;obtain⟨x',rfl,e1⟩:=a7U hl;exact ps_sole (g.p _ e1)
 | @if2 x b a h1 h2 ih1 ih2 =>
  intro hz;simp only[SZ]at hz;obtain⟨w,g⟩:=ih1 (by omega);obtain⟨v,f⟩:=ih2 (by omega);refine⟨_,fun z hy=>?_,rc_if2 g.e f.r,.k (by decide) (g.b.app f.b),rfl,_,rfl⟩;obtain⟨l',b,rfl,hl⟩:=a1u hy;obtain⟨x',y',rfl,e1,e2⟩:=b61 hl;exact ps_if2 (g.p _ e1) (f.p _ e2)
 | @if3 x b c a h1 h2 h3 ih1 ih2 ih3 =>
  intro hz;simp only[SZ]at hz;obtain⟨w,g⟩:=ih1 (by omega);obtain⟨v,f⟩:=ih2 (by omega);obtain⟨u,k⟩:=ih3 (by omega);refine⟨_,fun z hy=>?_,rc_if3 g.e f.r k.r,.k (by decide) (g.b.app (f.b.app (.k (by decide) k.b))),rfl,_,rfl⟩;obtain⟨l',b,rfl,hl⟩:=a1u hy;obtain⟨x',y',z',rfl,e1,e2,e3⟩:=ers_3 hl;exact ps_if3 (g.p _ e1) (f.p _ e2) (k.p _ e3) (by rw[(a4D e3).1,k.o];decide)
 | @if4 x b c a h1 h2 h3 ih1 ih2 ih3 =>
  intro hz;simp only[SZ]at hz;obtain⟨w,g⟩:=ih1 (by omega);obtain⟨v,f⟩:=ih2 (by omega);obtain⟨u,k⟩:=ih3 (by omega);obtain⟨u',hu⟩:=k.h;subst hu;refine⟨_,fun z hy=>?_,rc_if4 g.e f.r k.r,.k (by decide) (g.b.app (f.b.app (.k (by decide) k.b))),rfl,_,rfl⟩;obtain⟨l',b,rfl,hl⟩:=a1u hy;obtain⟨x',y',z',rfl,e1,e2,e3⟩:=ers_3 hl;exact ps_if4 (g.p _ e1) (f.p _ e2) (k.p _ e3) (by rw[(a4D e3).1,k.o])
 | @ifs x h ih =>
  intro hz;obtain⟨w,g⟩:=ih hz;obtain⟨u,hu⟩:=g.h;subst hu;exact⟨_,g.p,b5u (by decide) (rs_if g.r),g.b⟩
 | @whil x b a h1 h2 ih1 ih2 =>
  intro hz;simp only[SZ]at hz;obtain⟨w,g⟩:=ih1 (by omega);obtain⟨v,f⟩:=ih2 (by omega);refine⟨_,fun z hy=>?_,b5u (by decide) (rs_while g.e f.r),.k (by decide) (g.b.app f.b)⟩;obtain⟨l',b,rfl,hl⟩:=a1u hy;obtain⟨x',y',rfl,e1,e2⟩:=b61 hl;exact ps_while (g.p _ e1) (f.p _ e2)
 | @mat x l a h1 h ih1 ih =>
  intro hz;simp only[SZ]at hz;obtain⟨w,g1⟩:=ih1 (by omega);obtain⟨vs,g⟩:=a7C ih (show szN l<=12000 by omega);have hl2:=R9 l;refine⟨_,fun z hy=>?_,b5u (by decide) (rs_match (rm_match g1.e (g.imp fun _ _ _ h=>h.r) (by omega))),.k (by decide) (g1.b.app (.s (by decide) ((b6O (a5o g fun _ _ h=>h.b)).app (.s (by decide) .nil))))⟩;obtain⟨l',b,rfl,hl⟩:=a1u hy;obtain⟨x',r',rfl,e1,e2⟩:=a6r hl;exact ps_match (g1.p _ e1) (a3E (g.imp fun _ _ _ h=>h.p) e2)
 | @ret0 a =>
  intro _;refine⟨_,fun z hy=>?_,b5u (by decide) rs_ret0,.k (by decide) (.s (by decide) .nil)⟩;obtain⟨l',b,rfl,hl⟩:=a1u hy;cases a2f hl;exact ps_ret0
 | @ret1 x a h ih =>
  intro hz;simp only[SZ]at hz;obtain⟨w,g⟩:=ih (by omega);refine⟨_,fun z hy=>?_,b5u (by decide) (rs_ret1 g.e (b5K g.hd (.inl rfl) (by decide))),.k (by decide) (g.b.app (.s (by decide) .nil))⟩;obtain⟨l',b,rfl,hl⟩:=a1u hy;obtain⟨x',rfl,e1⟩:=a7U hl;exact ps_ret1 (g.p _ e1)
 | @thrw x a h ih =>
  intro hz;simp only[SZ]at hz;obtain⟨w,g⟩:=ih (by omega);refine⟨_,fun z hy=>?_,b5u (by decide) (rs_throw g.e),.k (by decide) (g.b.app (.s (by decide) .nil))⟩;obtain⟨l',b,rfl,hl⟩:=a1u hy;obtain⟨x',rfl,e1⟩:=a7U hl;exact ps_throw (g.p _ e1)
 | @doc s b c a hs h1 h2 ih1 ih2 =>
  intro hz;simp only[SZ]at hz;obtain⟨w,g⟩:=ih1 (by omega);obtain⟨v,f⟩:=ih2 (by omega);refine⟨_,fun z hy=>?_,b5u (by decide) (rs_do g.r f.r),.k (by decide) (g.b.app (.k (by decide) (.v (.inl rfl) hs f.b)))⟩;obtain⟨l',b,rfl,hl⟩:=a1u hy;obtain⟨x',y',rfl,e1,e2⟩:=b61 hl;exact ps_do (g.p _ e1) (f.p _ e2)
 | @dfr b a h ih =>
  intro hz;simp only[SZ]at hz;obtain⟨w,g⟩:=ih (by omega);refine⟨_,fun z hy=>?_,b5u (by decide) (rs_defer g.r),.k (by decide) g.b⟩;obtain⟨l',b,rfl,hl⟩:=a1u hy;obtain⟨x',rfl,e1⟩:=a7U hl;exact ps_defer (g.p _ e1)
 | @block l a h ih =>
  intro hz;simp only[SZ]at hz;obtain⟨vs,g⟩:=a7C ih (show szN l<=12000 by omega);have hl2:=R9 l;refine⟨_,fun z hy=>?_,rb_block (g.imp fun _ _ _ h=>h.r) (by omega),.s (by decide) ((b6O (a5o g fun _ _ h=>h.b)).app (.s (by decide) .nil)),rfl,⟨_::_,rfl⟩⟩;obtain⟨l',b,rfl,hl⟩:=a1u hy;exact pb_block (a3E (g.imp fun _ _ _ h=>h.p) hl)
 | @wild a =>
  intro _;refine⟨[(1,[95])],fun z hy=>?_,rt_wild,.tok (.inr (.inr (.inr rfl))) .nil⟩;obtain⟨l',b,rfl,hl⟩:=a1u hy;cases a2f hl;exact pp_wild
 | @bnd s a hs hn =>
  intro _;refine⟨[(1,s)],fun z hy=>?_,rt_bind hn,.v (.inl rfl) hs .nil⟩;obtain⟨l',b,rfl,hl⟩:=a1u hy;cases a2f hl;exact pp_bind
 | @pint s a h =>
  intro _;refine⟨[(3,s)],fun z hy=>?_,rt_int (vo.d3 h),.v (.inr (.inr (.inl rfl))) h .nil⟩;obtain⟨l',b,rfl,hl⟩:=a1u hy;cases a2f hl;exact pp_int (vo.n3 h)
 | @pneg s a h =>
  intro _;refine⟨cond (decide (a1h s 0=0)) [(3,s)] [(8,[45]),(3,s)],fun z hy=>?_,?_,?_⟩
  ·obtain⟨l',b,rfl,hl⟩:=a1u hy;cases a2f hl;exact pp_neg (vo.n3 h)
  ·by_cases h0:a1h s 0=0
   ·rw[decide_eq_true h0,show w64 (0-((a1h s 0:Nat):Int)) =((a1h s 0:Nat):Int)by rw[h0];decide];exact rt_int (vo.d3 h)
   ·rw[decide_eq_false h0];exact rt_neg (vo.d3 h)
  ·by_cases h0:a1h s 0=0
   ·rw[decide_eq_true h0];exact .v (.inr (.inr (.inl rfl))) h .nil
   ·rw[decide_eq_false h0];exact .s (by decide) (.v (.inr (.inr (.inl rfl))) h .nil)
 | @ptru a =>
  intro _;refine⟨_,fun z hy=>?_,rt_tru,.k (by decide) .nil⟩;obtain⟨l',b,rfl,hl⟩:=a1u hy;cases a2f hl;exact pp_tru
 | @pfal a =>
  intro _;refine⟨_,fun z hy=>?_,rt_fal,.k (by decide) .nil⟩;obtain⟨l',b,rfl,hl⟩:=a1u hy;cases a2f hl;exact pp_fal
 | @ptext s a h =>
  intro _;refine⟨[(4,s)],fun z hy=>?_,rt_text,.v (.inr (.inr (.inr rfl))) h .nil⟩;obtain⟨l',b,rfl,hl⟩:=a1u hy;cases a2f hl;exact pp_text (vo.t4 h)
 | @pcase s l a hs h ih =>
  intro hz;simp only[SZ]at hz;obtain⟨vs,g⟩:=a7C ih (show szN l<=12000 by omega);have hl2:=R9 l;by_cases h0:l=[]
  ·subst h0;refine⟨[(8,[46]),(1,s)],fun z hy=>?_,rt_case0,.s (by decide) (.v (.inl rfl) hs .nil)⟩;obtain⟨l',b,rfl,hl⟩:=a1u hy;cases a2f hl;exact pp_case0
  ·refine⟨_,fun z hy=>?_,rt_case1 h0 (g.imp fun _ _ _ h=>h.r) (by omega),.s (by decide) (.v (.inl rfl) hs (b2g (a5o g fun _ _ h=>h.b)))⟩;obtain⟨l',b,rfl,hl⟩:=a1u hy;exact pp_case1 (fun e=>by subst e;exact h0 (a2f hl.symm)) (a3E (g.imp fun _ _ _ h=>h.p) hl)
 | @param s n t a hs hn ht =>
  intro hz;simp only[SZ]at hz;refine⟨pmw n ++((1,s) ::(8,[58])::W t),fun z hy=>?_,⟨s,n,t,a,rfl,hn,ht,by omega,rfl⟩,?_⟩
  ·obtain⟨l',b,rfl,hl⟩:=a1u hy;cases a2f hl;rcases hn with rfl|rfl|rfl
   ·exact c7l
   ·exact c7m
   ·exact c7n
  ·have hb:Bal V ((1,s) ::(8,[58])::W t):=.v (.inl rfl) hs (.s (by decide) (a7S ht));rcases hn with rfl|rfl|rfl
   ·exact hb
   ·exact .k (by decide) hb
   ·exact .k (by decide) hb
 | @arm p b a h1 h2 ih1 ih2 =>
  intro hz;simp only[SZ]at hz;obtain⟨w,g⟩:=ih1 (by omega);obtain⟨v,f⟩:=ih2 (by omega);refine⟨_,fun z hy=>?_,⟨p,b,w,v,a,rfl,g.r,f.r,rfl⟩,.k (by decide) (g.b.app f.b)⟩;obtain⟨l',b,rfl,hl⟩:=a1u hy;obtain⟨x',y',rfl,e1,e2⟩:=b61 hl;exact pa_arm (g.p _ e1) (f.p _ e2)
 | _=>intro _;trivial
end
end Go.Proofs.YtjhfloacokgdiaaGreatDoor
namespace Go.Proofs.YtjhfloacokgdiaaGreatDoor.Sc
open Go Go.Vm Pr
variable {k:Int} {a:List (Int×List UInt8)} {st:List (Nat×Int)} {S S' S2 ps:List Int} {l toks:List Tok} {pre q r s tl u w x z:List UInt8} {y:MS} {e i ins j o:Nat} {b:UInt8}
theorem signK_eq (h:a2w s i 2=w)(hi:i<s.length):w =(s.take (i+w.length)).drop i:=by
 have h1:leB ((i+1:Nat):Int) s.length=true:=by simp only[leB,decide_eq_true_eq];omega
 simp only[a2w,h1,Bool.true_and]at h;split at h
 ·rename_i hx;simp only[Bool.and_eq_true,leB,decide_eq_true_eq]at hx;have hl:((s.take (i+2)).drop i).length=2:=by rw[List.length_drop,List.length_take];omega
  rw[<-h];show _ =(s.take (i+((s.take (i+2)).drop i).length)).drop i;rw[hl]
 ·split at h
  ·have hl:((s.take (i+1)).drop i).length=1:=by rw[List.length_drop,List.length_take];omega
   rw[<-h];show _ =(s.take (i+((s.take (i+1)).drop i).length)).drop i;rw[hl]
  ·subst h;simp
theorem bad_eq (w:List UInt8)(nx:UInt8):a4y w nx =((ltB 1 w.length&&eqB (w.getD 0 0).toNat 48) ||(ltB 19 w.length ||(eqB w.length 19 && !(ltS w b0d||eqS w b0d)))||a1b nx):=by
 unfold a4y;simp only[Bool.or_assoc]
def okB (b:UInt8):Bool:=decide (32<=b.toNat)||decide (b.toNat=10)||decide (b.toNat=9)
theorem getD_drop (q:List UInt8)(i k:Nat):q.getD (i+k) 0 =(q.drop i).getD k 0:=by
 rw[List.getD_eq_getElem?_getD,List.getD_eq_getElem?_getD,List.getElem?_drop]
theorem b7n (h:q.drop i=b::r):q.length=i+(r.length+1):=by
 have:=congrArg List.length h;rw[List.length_drop,List.length_cons]at this;omega
theorem a3d {a:List UInt8}(h:q.drop i=a++z){k:Nat}(hk:a.length=k):q.drop (i+k)=z:=by
 subst hk;rw[<-List.drop_drop,h,List.drop_left]
theorem c08 {n:Nat}(h:b.toNat=n):b=UInt8.ofNat n:=by rw[<-h];simp
theorem a3V {q:List UInt8}{o ins:Nat}:∀(r z:List UInt8) (i:Nat) (text:List UInt8),q.drop i=Rp.esc r++z->r.all okB=true->part q o ins i text=part q o ins (i+(Rp.esc r).length) (text++r)
 | [],z,i,text,hd,_=>by simp[Rp.esc]
 | b::r,z,i,text,hd,hok=>by
  rw[List.all_cons,Bool.and_eq_true]at hok;rw[Rp.a4E]at hd;have hlen:i+((Rp.a7s b).length+(Rp.esc r).length+z.length)<=q.length∨q.length<i:=by
   have:=congrArg List.length hd;rw[List.length_drop]at this;simp only[List.length_append]at this;omega
  have h0:=getD_drop q i 0;have h1:=getD_drop q i 1;rw[hd]at h0 h1;have hl1:=Rp.b4y b;have hlen:i+((Rp.a7s b).length+(Rp.esc r).length+z.length)<=q.length:=by
   rcases hlen with h|h
   ·exact h
   ·rw[List.drop_eq_nil_of_le (by omega)]at hd;have:=congrArg List.length hd;simp only[List.length_append,List.length_nil]at this;omega
  have fin:∀k,(Rp.a7s b).length=k->q.drop (i+k)=Rp.esc r++z:=fun k hk=>a3d (by rw[hd,List.append_assoc]) hk;by_cases c1:b=10
  ·subst c1;have e:Rp.a7s 10=[92,110]:=rfl;rw[e]at h0 h1 hlen;simp only[List.length_cons,List.length_nil]at hlen;rw[part_n (by omega) (by rw[show q.getD i 0=92 from h0];decide) (by rw[show q.getD i 0=92 from h0];rfl) (by rw[show q.getD (i+1) 0=110 from h1];rfl),a3V r z (i+2) _ (fin 2 rfl) hok.2];rw[Rp.a4E,e];simp;congr 1;omega
  by_cases c2:b=9
  ·subst c2;have e:Rp.a7s 9=[92,116]:=rfl;rw[e]at h0 h1 hlen;simp only[List.length_cons,List.length_nil]at hlen;rw[part_t (by omega) (by rw[show q.getD i 0=92 from h0];decide) (by rw[show q.getD i 0=92 from h0];rfl) (by rw[show q.getD (i+1) 0=116 from h1];rfl),a3V r z (i+2) _ (fin 2 rfl) hok.2];rw[Rp.a4E,e];simp;congr 1;omega
  by_cases c3:b=92
  ·subst c3;have e:Rp.a7s 92=[92,92]:=rfl;rw[e]at h0 h1 hlen;simp only[List.length_cons,List.length_nil]at hlen;rw[b3m (by omega) (by rw[show q.getD i 0=92 from h0];decide) (by rw[show q.getD i 0=92 from h0];rfl) (.inl (by rw[show q.getD (i+1) 0=92 from h1];rfl)),a3V r z (i+2) _ (fin 2 rfl) hok.2,show q.getD (i+1) 0=92 from h1];rw[Rp.a4E,e];simp;congr 1;omega
  by_cases c4:b=34
  ·subst c4;have e:Rp.a7s 34=[92,34]:=rfl;rw[e]at h0 h1 hlen;simp only[List.length_cons,List.length_nil]at hlen;rw[b3m (by omega) (by rw[show q.getD i 0=92 from h0];decide) (by rw[show q.getD i 0=92 from h0];rfl) (.inr (by rw[show q.getD (i+1) 0=34 from h1];rfl)),a3V r z (i+2) _ (fin 2 rfl) hok.2,show q.getD (i+1) 0=34 from h1];rw[Rp.a4E,e];simp;congr 1;omega
  have e:Rp.a7s b=[b]:=by simp only[Rp.a7s,if_neg c1,if_neg c2,if_neg c3,if_neg c4]
  rw[e]at h0 h1 hlen;simp only[List.length_cons,List.length_nil]at hlen;have hb:32<=b.toNat:=by
   have:=hok.1;simp only[okB,Bool.or_eq_true,decide_eq_true_eq]at this;rcases this with(h|h)|h
   ·exact h
   ·exact absurd (c08 h) c1
   ·exact absurd (c08 h) c2
  have h0:q.getD i 0=b:=h0;rw[b9x (by omega) (by rw[h0];exact hb) (by rw[h0];intro h;exact c4 (c08 (n:=34) h)) (by rw[h0];intro h;exact c3 (c08 (n:=92) h)),a3V r z (i+1) _ (fin 1 (by rw[e];rfl)) hok.2,h0];rw[Rp.a4E,e];simp;congr 1;omega
theorem b9z {text:List UInt8}(hd:q.drop i=Rp.esc r ++(34::z))(hok:r.all okB=true):part q o ins i text=.fin (text++r) (i+(Rp.esc r).length+1):=by
 have h2:q.drop (i+(Rp.esc r).length)=34::z:=a3d hd rfl;have h0:q.getD (i+(Rp.esc r).length) 0=34:=by have:=getD_drop q (i+(Rp.esc r).length) 0;rw[h2]at this;exact this
 have hl:=b7n h2;rw[a3V r _ i text hd hok,b7N (by omega) (by rw[h0];decide) (by rw[h0];rfl)]
theorem b7O {text:List UInt8}(hd:q.drop i=Rp.esc r ++(92::40::z))(hok:r.all okB=true)(hi:ins<3):part q o ins i text=.more (text++r) (i+(Rp.esc r).length+2):=by
 have h2:q.drop (i+(Rp.esc r).length)=92::40::z:=a3d hd rfl;have h0:q.getD (i+(Rp.esc r).length) 0=92:=by have:=getD_drop q (i+(Rp.esc r).length) 0;rw[h2]at this;exact this
 have h1:q.getD (i+(Rp.esc r).length+1) 0=40:=by have:=getD_drop q (i+(Rp.esc r).length) 1;rw[h2]at this;exact this
 have hl:=b7n h2;rw[a3V r _ i text hd hok,b5p (by omega) (by rw[h0];decide) (by rw[h0];rfl) (by rw[h1];rfl) (by omega)]
def PT (ins:Nat)(text:List UInt8):PR->Prop | .err _ _=>True | .fin T _=>∃r,T=text++r/\r.all okB=true | .more T _=>ins<3 /\ ∃r,T=text++r/\r.all okB=true
theorem PT.snoc {text:List UInt8}{p:PR}(hb:okB b=true)(h:PT ins (text++[b]) p):PT ins text p:=by
 have aux:∀T,(∃r,T=text++[b]++r/\r.all okB=true) -> ∃r,T=text++r/\r.all okB=true:=by
  rintro T ⟨r,h1,h2⟩;exact⟨b::r,by rw[h1];simp,by rw[List.all_cons,hb,h2];rfl⟩
 cases p with
 | err c a=>trivial
 | fin T e=>exact aux T h
 | more T e=>exact⟨h.1,aux T h.2⟩
theorem okB_ge (h:32<=b.toNat):okB b=true:=by simp only[okB,decide_eq_true h,Bool.true_or]
theorem b7L (q:List UInt8)(o ins:Nat):∀(f i:Nat) (text:List UInt8),PT ins text (a7a q o ins f i text)
 | 0,i,text=>trivial
 | f+1,i,text=>by
  have ih:=b7L q o ins f;simp only[a7a];split
  ·trivial
  ·rename_i h1;simp only[Bool.and_eq_true,decide_eq_true_eq]at h1;split
   ·exact⟨[],by simp,rfl⟩
   ·split
    ·exact PT.snoc (okB_ge h1.2) (ih _ _)
    ·split
     ·exact PT.snoc (by decide) (ih _ _)
     ·split
      ·exact PT.snoc (by decide) (ih _ _)
      ·split
       ·rename_i h5;simp only[Bool.or_eq_true,decide_eq_true_eq]at h5;exact PT.snoc (okB_ge (by omega)) (ih _ _)
       ·split
        ·split
         ·trivial
         ·rename_i h7;simp only[decide_eq_false_iff_not]at h7;exact⟨by omega,[],by simp,rfl⟩
        ·trivial
theorem b9A (q:List UInt8)(o ins i:Nat)(text:List UInt8):PT ins text (part q o ins i text):=b7L q o ins _ i text
def spK (k:Int)(x:List UInt8):List UInt8 :=if k=4 then 34 ::(Rp.esc x++[34])else if k=5 then 34 ::(Rp.esc x++[92,40])else if k=6 then 41 ::(Rp.esc x++[92,40])else if k=7 then 41 ::(Rp.esc x++[34])else x
def b6S (b:Nat):List Int->Bool | []=>false|p::_=>decide (p=0)&&decide (b=41)
theorem c1J (b:Nat):∀st:List (Nat×Int),closes b st=b6S b (st.map Prod.snd)
 | []=>rfl
 |(q,p)::st=>rfl
def b5E (w:List UInt8):List Int->List Int
 | []=>[]
 | p::r=>match decide (w=[40])with
  | true=>(p+1)::r
  | false=>match decide (w=[41])with
   | true=>(p-1)::r
   | false=>p::r
theorem c3G (w:List UInt8):∀st:List (Nat×Int),(bump w st).map Prod.snd=b5E w (st.map Prod.snd)
 | []=>rfl
 |(q,p)::st=>by
  simp only[bump,List.map_cons,b5E];cases decide (w=[40])with
  | true=>rfl
  | false=>cases decide (w=[41])<;>rfl
inductive TS:List Int->Int->List UInt8->List Int->Prop
 | tail (x:List UInt8) (st:List Int) (h:x.all okB=true):TS (0::st) 7 x st
 | mid (x:List UInt8) (st:List Int) (h:x.all okB=true) (h2:st.length<3):TS (0::st) 6 x (0::st)
 | text (x:List UInt8) (st:List Int) (h:x.all okB=true):TS st 4 x st
 | head (x:List UInt8) (st:List Int) (h:x.all okB=true) (h2:st.length<3):TS st 5 x (0::st)
 | int (w:List UInt8) (st:List Int) (h:w ≠ []) (h1:w.all U5=true) (h2:∀c,a1b c=false->a4y w c=false):TS st 3 w st
 | name (w:List UInt8) (st:List Int) (h:w ≠ []) (h0:a1b (w.headD 0)=true) (h1:w.all a2J=true) (h2:ltB 24 (w.length:Nat)=false):TS st (a4F w) w st
 | sign (w:List UInt8) (st:List Int) (h:a9g a1j w=true) (h1:b6S (w.headD 0).toNat st=false):TS st 8 w (b5E w st)
theorem b71 (p:UInt8->Bool)(s:List UInt8)(i:Nat):(s.take (a1c p s i)).drop i =(s.drop i).takeWhile p:=by
 rw[List.drop_take];have h:a1c p s i-i =((s.drop i).takeWhile p).length:=by unfold a1c;omega
 rw[h];exact(List.prefix_iff_eq_take.1 (List.takeWhile_prefix p)).symm
theorem c5Y {q:Nat}{a b:Int}{r:PR}(h:a2k toks st q j a b r=.go y) :
  (∃T e,r=.fin T e/\y =⟨e,toks++[⟨a,T,j,e-j⟩],st⟩)∨(∃T e,r=.more T e/\y =⟨e,toks++[⟨b,T,j,e-j⟩],(q,0)::st⟩):=by
 cases r with
 | err c a=>cases h
 | fin T e=>cases h;exact .inl ⟨_,_,rfl,rfl⟩
 | more T e=>cases h;exact .inr ⟨_,_,rfl,rfl⟩
theorem c7J (h:a2w s i 2=w)(hw:w ≠ [])(hi:i<s.length):a9g a1j w=true/\w.headD 0=s.getD i 0:=by
 refine⟨?_,?_⟩
 ·simp only[a2w]at h;split at h
  ·rename_i hx;simp only[Bool.and_eq_true]at hx;rw[<-h];exact hx.2
  ·split at h
   ·rename_i hx;simp only[Bool.and_eq_true]at hx;rw[<-h];exact hx.2
   ·exact absurd h.symm hw
 ·have e:=signK_eq h hi;rw[List.drop_take,a3y hi]at e;cases w with
  | nil=>exact absurd rfl hw
  | cons b w =>
   rw[show i+(b::w).length-i=w.length+1 by simp]at e;rw[List.take_succ_cons]at e;exact(List.cons.inj e).1
theorem b5x {x:MS}(h:stepM s x=.go y):∃t:Tok,y.toks=x.toks++[t]/\x.toks.length<3000/\TS (x.st.map Prod.snd) t.k t.t (y.st.map Prod.snd):=by
 obtain⟨i0,toks,st⟩:=x;obtain⟨i,h0⟩:∃i,a0W s i0=i:=⟨_,rfl⟩
 rcases Nat.lt_or_ge i s.length with hi|hi
 ·cases hc:closes (s.getD i 0).toNat st with
  | true =>
   cases st with
   | nil=>cases hc
   | cons z st =>
    obtain⟨q,p⟩:=z;obtain⟨rfl,e⟩:=a2F (toks:=toks) h0 hi hc;rw[e]at h;obtain⟨hr,h⟩:=a1B h;have hp:=b9A s q st.length (i+1) [];rcases c5Y h with⟨T,e,h1,rfl⟩ |⟨T,e,h1,rfl⟩
    ·rw[h1]at hp;obtain⟨r,h2,h3⟩:=hp;rw[List.nil_append]at h2;subst h2;exact⟨_,rfl,hr,.tail _ _ h3⟩
    ·rw[h1]at hp;obtain⟨h4,r,h2,h3⟩:=hp;rw[List.nil_append]at h2;subst h2;exact⟨_,rfl,hr,.mid _ _ h3 (by rw[List.length_map];exact h4)⟩
  | false =>
   by_cases h1:(s.getD i 0).toNat=34
   ·rw[a4s h0 hi hc h1]at h;obtain⟨hr,h⟩:=a1B h;have hp:=b9A s i st.length (i+1) [];rcases c5Y h with⟨T,e,h1,rfl⟩ |⟨T,e,h1,rfl⟩
    ·rw[h1]at hp;obtain⟨r,h2,h3⟩:=hp;rw[List.nil_append]at h2;subst h2;exact⟨_,rfl,hr,.text _ _ h3⟩
    ·rw[h1]at hp;obtain⟨h4,r,h2,h3⟩:=hp;rw[List.nil_append]at h2;subst h2;exact⟨_,rfl,hr,.head _ _ h3 (by rw[List.length_map];exact h4)⟩
   ·cases h2:U5 (s.getD i 0)with
    | true =>
     rw[a3v h0 hi hc h1 h2,b71]at h;obtain⟨hr,h⟩:=a1B h;split at h
     ·cases h
     ·rename_i hb;cases h;refine⟨_,rfl,hr,.int _ _ ?_ List.all_takeWhile ?_⟩
      ·rw[a3y hi,List.takeWhile_cons,h2];simp
      ·intro c hc;rw[bad_eq]at hb ⊢;rw[Bool.or_eq_false_iff]at hb ⊢;exact⟨hb.1,hc⟩
    | false =>
     cases h3:a1b (s.getD i 0)with
     | true =>
      rw[a2G h0 hi hc h1 h2 h3,b71]at h;obtain⟨hr,h⟩:=a1B h;split at h
      ·cases h
      ·rename_i hb;cases h;have hn:a2J (s.getD i 0)=true:=by simp only[a2J,h3,Bool.true_or]
       refine⟨_,rfl,hr,.name _ _ ?_ ?_ List.all_takeWhile hb⟩
       ·rw[a3y hi,List.takeWhile_cons,hn];simp
       ·rw[a3y hi,List.takeWhile_cons,hn];exact h3
     | false =>
      cases hw:a2w s i 2 with
      | nil=>rw[a5P h0 hi hc h1 h2 h3 hw]at h;cases h
      | cons b w =>
       rw[a2p h0 hi hc h1 h2 h3 hw (by simp)]at h;obtain⟨hr,h⟩:=a1B h;cases h;obtain⟨k1,k2⟩:=c7J hw (by simp) hi;refine⟨_,rfl,hr,?_⟩;show TS (st.map Prod.snd) 8 (b::w) ((bump (b::w) st).map Prod.snd);rw[c3G];exact .sign _ _ k1 (by rw[k2,<-c1J];exact hc)
 ·cases st with
  | nil=>rw[a4U h0 hi]at h;cases h
  | cons z st=>obtain⟨q,p⟩:=z;rw[a5R h0 hi]at h;cases h
theorem a5z {r:MR}(h:toks.length<3000):roomy toks j r=r:=b4R (by simp only[leB,decide_eq_false_iff_not];omega)
theorem a5B (hd:u.drop e=pre ++(b::r))(hp:pre=[]∨pre=[32]∨pre=[10])(hb:a6q b=false)(hc:b.toNat≠47∨(r.headD 0).toNat≠47) :
  a0W u e=e+pre.length/\e+pre.length<u.length/\u.drop (e+pre.length)=b::r/\u.getD (e+pre.length) 0=b:=by
 have h2:u.drop (e+pre.length)=b::r:=a3d hd rfl;have hl:=b7n h2;have h0:u.getD (e+pre.length) 0=b:=by have:=getD_drop u (e+pre.length) 0;rw[h2]at this;exact this
 have h1:u.getD (e+pre.length+1) 0=r.headD 0:=by
  have:=getD_drop u (e+pre.length) 1;rw[h2]at this;rw[this];cases r<;>rfl
 have hs:a0W u (e+pre.length)=e+pre.length:=b78 (by omega) (by rw[h0];exact hb) (by rw[h0,h1];exact hc);refine⟨?_,by omega,h2,h0⟩;rcases hp with rfl|rfl|rfl
 ·exact hs
 ·have hb0:u.getD e 0=32:=by have:=getD_drop u e 0;rw[hd]at this;exact this
  have hle:e<u.length:=by simp only[List.length_cons,List.length_nil]at hl;omega
  rw[a9A hle (by rw[hb0];decide)];exact hs
 ·have hb0:u.getD e 0=10:=by have:=getD_drop u e 0;rw[hd]at this;exact this
  have hle:e<u.length:=by simp only[List.length_cons,List.length_nil]at hl;omega
  rw[a9A hle (by rw[hb0];decide)];exact hs
def sgnP (w:List UInt8):Bool:=(decide (w.length=1)||decide (w.length=2))&&(!a6q (w.headD 0)&&(!decide ((w.headD 0).toNat=34)&&(!U5 (w.headD 0)&&(!a1b (w.headD 0)&&(decide ((w.headD 0).toNat≠47)||decide (w.length=1))))))
theorem c7K:a1j.all sgnP=true:=by decide
theorem sign_P (h:a9g a1j w=true):sgnP w=true:=by
 simp only[a9g,List.any_eq_true,decide_eq_true_eq]at h;obtain⟨y,h1,rfl⟩:=h;exact List.all_eq_true.1 c7K y h1
def TL (t:List UInt8):Prop:=t=[] ∨ ∃c r,t=c::r/\(c=32∨c=40∨c=41∨c=10)
theorem no32 (b:UInt8){c:UInt8}(hc:c=32∨c=40∨c=41∨c=10):a9g a1j [b,c]=false:=by rcases hc with rfl|rfl|rfl|rfl<;>simp[a9g,a1j]
theorem c25 (hd:u.drop i=w++tl)(hw:a9g a1j w=true)(ht:TL tl):a2w u i 2=w:=by
 have hP:=sign_P hw;simp only[sgnP,Bool.and_eq_true,Bool.or_eq_true,decide_eq_true_eq]at hP;have hlen:=congrArg List.length hd;rw[List.length_drop,List.length_append]at hlen;match w,hP with
 | [b],_ =>
  simp only[List.length_cons,List.length_nil]at hlen;have e1:(u.take (i+1)).drop i=[b]:=by rw[List.drop_take,hd,show i+1-i=1 by omega];rfl
  have l1:leB ((i+1:Nat):Int) u.length=true:=by simp only[leB,decide_eq_true_eq];omega
  have e2:(leB ((i+(1+1):Nat):Int) u.length&&a9g a1j ((u.take (i+(1+1))).drop i))=false:=by
   rcases ht with rfl |⟨c,r,rfl,hc⟩
   ·have:leB ((i+(1+1):Nat):Int) u.length=false:=by simp only[leB,decide_eq_false_iff_not];simp only[List.length_nil]at hlen;omega
    rw[this];rfl
   ·have:(u.take (i+(1+1))).drop i=[b,c]:=by rw[List.drop_take,hd,show i+(1+1)-i=2 by omega];rfl
    rw[this,no32 b hc,Bool.and_false]
  simp only[a2w,e2];simp only[Nat.zero_add,e1,l1,hw,Bool.and_self]
 | [b,c],_ =>
  simp only[List.length_cons,List.length_nil]at hlen;have e2:(u.take (i+(1+1))).drop i=[b,c]:=by rw[List.drop_take,hd,show i+(1+1)-i=2 by omega];rfl
  have l2:leB ((i+(1+1):Nat):Int) u.length=true:=by simp only[leB,decide_eq_true_eq];omega
  simp only[a2w,e2,l2,hw,Bool.and_self]
 | [],hP=>simp at hP
 | _::_::_::_,hP=>simp at hP
theorem c6D {p:UInt8->Bool}{tl:List UInt8}(ht:p (tl.headD 0)=false∨tl=[]):∀{w:List UInt8},w.all p=true ->(w++tl).takeWhile p=w
 | [],_=>by
  cases tl with
  | nil=>rfl
  | cons c tl =>
   rcases ht with h|h
   ·rw[List.nil_append,List.takeWhile_cons];have h:p c=false:=h;rw[h];rfl
   ·cases h
 | b::w,h=>by
  rw[List.all_cons,Bool.and_eq_true]at h;rw[List.cons_append,List.takeWhile_cons,h.1,if_pos rfl,c6D ht h.2]
theorem run_at {p:UInt8->Bool}(hd:u.drop i=w++tl)(ht:p (tl.headD 0)=false∨tl=[])(hw:w.all p=true):a1c p u i=i+w.length/\(u.take (a1c p u i)).drop i=w/\u.getD (a1c p u i) 0=tl.headD 0:=by
 have h1:=c6D ht hw;have h2:a1c p u i=i+w.length:=by unfold a1c;rw[hd,h1]
 refine⟨h2,by rw[b71,hd,h1],?_⟩;have:=getD_drop u (i+w.length) 0;rw[a3d hd rfl,Nat.add_zero]at this;rw[h2,this];cases tl<;>rfl
theorem spK_name (w:List UInt8):spK (a4F w) w=w:=by
 unfold a4F;split
 ·rfl
 ·split<;>rfl
theorem step_of (hd:u.drop e=pre ++(spK k x++tl))(hp:pre=[]∨pre=[32]∨pre=[10])(ht:TL tl)(hT:TS (st.map Prod.snd) k x ps)(hr:toks.length<3000) :
  ∃y,stepM u ⟨e,toks,st⟩=.go y/\(∃a l,y.toks=toks++[⟨k,x,a,l⟩])/\y.i=e+pre.length+(spK k x).length/\y.st.map Prod.snd=ps:=by
 have ht2:∀p:UInt8->Bool,p 32=false->p 40=false->p 41=false->p 10=false->p (tl.headD 0)=false∨tl=[]:=fun p hp hp2 hp3 hp4=>by
  rcases ht with rfl |⟨c,r,rfl,rfl|rfl|rfl|rfl⟩
  ·exact .inr rfl
  ·exact .inl hp
  ·exact .inl hp2
  ·exact .inl hp3
  ·exact .inl hp4
 generalize hs:st.map Prod.snd=S at hT;cases hT with
 | tail x ps h =>
  cases st with
  | nil=>cases hs
  | cons z st =>
   obtain⟨q,p⟩:=z;simp only[List.map_cons,List.cons.injEq]at hs;obtain⟨rfl,rfl⟩:=hs;have es:spK 7 x=41 ::(Rp.esc x++[34]):=rfl;rw[es,List.cons_append]at hd;obtain⟨h0,hi,h2,h3⟩:=a5B hd hp (by decide) (.inl (by decide));obtain⟨-,e1⟩:=a2F (toks:=toks) (st:=st) (q:=q) (p:=0) h0 hi (by rw[h3];rfl);have hd2:u.drop (e+pre.length+1)=Rp.esc x ++(34::tl):=by rw[a3d (a:=[41]) (k:=1) h2 rfl];simp
   rw[e1,a5z hr,b9z hd2 h];refine⟨_,rfl,⟨_,_,rfl⟩,?_,rfl⟩;rw[es];simp;omega
 | mid x ps h h5 =>
  cases st with
  | nil=>cases hs
  | cons z st =>
   obtain⟨q,p⟩:=z;simp only[List.map_cons,List.cons.injEq]at hs;obtain⟨rfl,rfl⟩:=hs;have es:spK 6 x=41 ::(Rp.esc x++[92,40]):=rfl;rw[es,List.cons_append]at hd;obtain⟨h0,hi,h2,h3⟩:=a5B hd hp (by decide) (.inl (by decide));obtain⟨-,e1⟩:=a2F (toks:=toks) (st:=st) (q:=q) (p:=0) h0 hi (by rw[h3];rfl);have hd2:u.drop (e+pre.length+1)=Rp.esc x ++(92::40::tl):=by rw[a3d (a:=[41]) (k:=1) h2 rfl];simp
   rw[List.length_map]at h5;rw[e1,a5z hr,b7O hd2 h h5];refine⟨_,rfl,⟨_,_,rfl⟩,?_,rfl⟩;rw[es];simp;omega
 | text x ps h =>
  subst hs;have es:spK 4 x=34 ::(Rp.esc x++[34]):=rfl;rw[es,List.cons_append]at hd;obtain⟨h0,hi,h2,h3⟩:=a5B hd hp (by decide) (.inl (by decide));have hd2:u.drop (e+pre.length+1)=Rp.esc x ++(34::tl):=by rw[a3d (a:=[34]) (k:=1) h2 rfl];simp
  rw[a4s h0 hi (by rw[h3];exact a5T (by decide)) (by rw[h3];rfl),a5z hr,b9z hd2 h];refine⟨_,rfl,⟨_,_,rfl⟩,?_,rfl⟩;rw[es];simp;omega
 | head x ps h h5 =>
  subst hs;have es:spK 5 x=34 ::(Rp.esc x++[92,40]):=rfl;rw[es,List.cons_append]at hd;obtain⟨h0,hi,h2,h3⟩:=a5B hd hp (by decide) (.inl (by decide));have hd2:u.drop (e+pre.length+1)=Rp.esc x ++(92::40::tl):=by rw[a3d (a:=[34]) (k:=1) h2 rfl];simp
  rw[List.length_map]at h5;rw[a4s h0 hi (by rw[h3];exact a5T (by decide)) (by rw[h3];rfl),a5z hr,b7O hd2 h h5];refine⟨_,rfl,⟨_,_,rfl⟩,?_,rfl⟩;rw[es];simp;omega
 | int w ps h h1 h2 =>
  subst hs;have es:spK 3 x=x:=rfl;rw[es]at hd ⊢;cases x with
  | nil=>exact absurd rfl h
  | cons b w =>
  have hb:U5 b=true:=by rw[List.all_cons,Bool.and_eq_true]at h1;exact h1.1
  have hb2:=hb;simp only[U5,decide_eq_true_eq]at hb2;rw[List.cons_append]at hd;obtain⟨h0,hi,h3,h4⟩:=a5B hd hp (by simp only[a6q,decide_eq_false_iff_not];omega) (.inl (by omega));have h5:u.drop (e+pre.length) =(b::w)++tl:=h3;obtain⟨r1,r2,r3⟩:=run_at h5 (ht2 U5 (by decide) (by decide) (by decide) (by decide)) h1;rw[a3v h0 hi (by rw[h4];exact a5T (by omega)) (by rw[h4];omega) (by rw[h4];exact hb),a5z hr,r2,r3,h2 _ (by rcases ht with rfl |⟨c,r,rfl,rfl|rfl|rfl|rfl⟩<;>rfl)];refine⟨_,rfl,⟨_,_,rfl⟩,?_,rfl⟩;exact r1
 | name w ps h h6 h1 h2 =>
  subst hs;rw[spK_name]at hd ⊢;cases x with
  | nil=>exact absurd rfl h
  | cons b w =>
  have hb:a1b b=true:=h6;have hb2:=hb;simp only[a1b,decide_eq_true_eq]at hb2;rw[List.cons_append]at hd;obtain⟨h0,hi,h3,h4⟩:=a5B hd hp (by simp only[a6q,decide_eq_false_iff_not];omega) (.inl (by omega));have h5:u.drop (e+pre.length) =(b::w)++tl:=h3;obtain⟨r1,r2,r3⟩:=run_at h5 (ht2 a2J (by decide) (by decide) (by decide) (by decide)) h1;rw[a2G h0 hi (by rw[h4];exact a5T (by omega)) (by rw[h4];omega) (by rw[h4];simp only[U5,decide_eq_false_iff_not];omega) (by rw[h4];exact hb),a5z hr,r2,h2];refine⟨_,rfl,⟨_,_,rfl⟩,?_,rfl⟩;exact r1
 | sign w ps h h1 =>
  subst hs;have es:spK 8 x=x:=rfl;rw[es]at hd ⊢;have hP:=sign_P h;cases x with
  | nil=>exact absurd hP (by decide)
  | cons b w =>
  simp only[sgnP,List.headD_cons,Bool.and_eq_true,Bool.or_eq_true,Bool.not_eq_true',decide_eq_true_eq,decide_eq_false_iff_not]at hP;obtain⟨p1,p2,p3,p4,p5,p6⟩:=hP;rw[List.cons_append]at hd;obtain⟨h0,hi,h3,h4⟩:=a5B hd hp p2 (by
   rcases p6 with p6|p6
   ·exact .inl (of_decide_eq_true p6)
   ·right;cases w with
    | nil =>
     rcases ht with rfl |⟨c,r,rfl,rfl|rfl|rfl|rfl⟩
     ·decide
     ·show(32:UInt8).toNat≠47;decide
     ·show(40:UInt8).toNat≠47;decide
     ·show(41:UInt8).toNat≠47;decide
     ·show(10:UInt8).toNat≠47;decide
    | cons c w=>simp at p6)
  have h5:u.drop (e+pre.length) =(b::w)++tl:=h3;rw[a2p (w:=b::w) h0 hi (by rw[h4,c1J];exact h1) (by rw[h4];exact of_decide_eq_false p3) (by rw[h4];exact p4) (by rw[h4];exact p5) (c25 h5 h ht) (by simp),a5z hr];refine⟨_,rfl,⟨_,_,rfl⟩,rfl,?_⟩;exact c3G _ _
def KT (l:List Tok):List (Int×List UInt8):=l.map fun t=>(t.k,t.t)
def TQ (k:Int)(x t:List UInt8):Prop:=TL t∨k=8/\x=[40]
theorem noOpen (c:UInt8):a9g a1j [40,c]=false:=by simp[a9g,a1j]
theorem c4X (hd:u.drop i=40::tl):a2w u i 2=[40]:=by
 cases tl with
 | nil=>exact c25 (w:=[40]) (tl:=[]) hd (by decide) (.inl rfl)
 | cons c r =>
  have hlen:=congrArg List.length hd;rw[List.length_drop,List.length_cons,List.length_cons]at hlen;have e1:(u.take (i+1)).drop i=[40]:=by rw[List.drop_take,hd,show i+1-i=1 by omega];rfl
  have l1:leB ((i+1:Nat):Int) u.length=true:=by simp only[leB,decide_eq_true_eq];omega
  have e2:(leB ((i+(1+1):Nat):Int) u.length&&a9g a1j ((u.take (i+(1+1))).drop i))=false:=by
   have:(u.take (i+(1+1))).drop i=[40,c]:=by rw[List.drop_take,hd,show i+(1+1)-i=2 by omega];rfl
   rw[this,noOpen,Bool.and_false]
  simp only[a2w,e2];simp only[Nat.zero_add,e1,l1,show a9g a1j [40]=true by decide,Bool.and_self]
theorem ts_bump (h:TS S k x S')(hk:k=8):S'=b5E x S:=by
 cases h with
 | sign _ _ _ _=>rfl
 | name _ _ _ _ _ _ =>
  exfalso;revert hk;unfold a4F;split
  ·omega
  ·split<;>omega
 | _=>omega
theorem b8b (hd:u.drop e=pre ++(spK k x++tl))(hp:pre=[]∨pre=[32]∨pre=[10])(ht:TQ k x tl)(hT:TS (st.map Prod.snd) k x ps)(hr:toks.length<3000) :
  ∃y,stepM u ⟨e,toks,st⟩=.go y/\(∃a l,y.toks=toks++[⟨k,x,a,l⟩])/\y.i=e+pre.length+(spK k x).length/\y.st.map Prod.snd=ps:=by
 rcases ht with ht |⟨rfl,rfl⟩
 ·exact step_of hd hp ht hT hr
 ·rw[ts_bump hT rfl];have hd:u.drop e=pre ++(40::tl):=hd;obtain⟨h0,hi,h3,h4⟩:=a5B hd hp (by decide) (.inl (by decide));rw[a2p (w:=[40]) h0 hi (by rw[h4];exact a5T (by decide)) (by rw[h4];decide) (by rw[h4];decide) (by rw[h4];decide) (c4X h3) (by simp),a5z hr];refine⟨_,rfl,⟨_,_,rfl⟩,rfl,?_⟩;show(bump [40] st).map Prod.snd=_;exact c3G [40] st
inductive TP:List Int->Int->List UInt8->List Int->Prop
 | of {S:List Int} {k:Int} {x:List UInt8} {S':List Int} (h:TS S k x S'):TP S k x S'
 | mid (x:List UInt8) (st:List Int) (h:x.all okB=true):TP (0::st) 6 x (0::st)
 | head (x:List UInt8) (st:List Int) (h:x.all okB=true):TP st 5 x (0::st)
theorem b7M {text:List UInt8}(hd:q.drop i=Rp.esc r ++(92::40::z))(hok:r.all okB=true)(hi:3<=ins):∃c a,part q o ins i text=.err c a:=by
 have h2:q.drop (i+(Rp.esc r).length)=92::40::z:=a3d hd rfl;have h0:q.getD (i+(Rp.esc r).length) 0=92:=by have:=getD_drop q (i+(Rp.esc r).length) 0;rw[h2]at this;exact this
 have h1:q.getD (i+(Rp.esc r).length+1) 0=40:=by have:=getD_drop q (i+(Rp.esc r).length) 1;rw[h2]at this;exact this
 have hl:=b7n h2;rw[a3V r _ i text hd hok,b9y (by omega) (by rw[h0];decide) (by rw[h0];rfl) (by rw[h1];rfl) hi];exact⟨_,_,rfl⟩
theorem b9J (hd:u.drop e=pre ++(spK k x++tl))(hp:pre=[]∨pre=[32]∨pre=[10])(ht:TQ k x tl)(hT:TP (st.map Prod.snd) k x ps)(hy:stepM u ⟨e,toks,st⟩=.go y) :
  (∃a l,y.toks=toks++[⟨k,x,a,l⟩])/\y.i=e+pre.length+(spK k x).length/\y.st.map Prod.snd=ps:=by
 obtain⟨_,_,hr,_⟩:=b5x hy;simp only at hr;have go:TS (st.map Prod.snd) k x ps ->(∃a l,y.toks=toks++[⟨k,x,a,l⟩])/\y.i=e+pre.length+(spK k x).length/\y.st.map Prod.snd=ps:=fun h=>by
  obtain⟨y',e1,e2⟩:=b8b (toks:=toks) hd hp ht h hr;rw[hy]at e1;cases e1;exact e2
 generalize hs:st.map Prod.snd=S at hT;cases hT with
 | of h=>rw[<-hs]at h;exact go h
 | mid x S h =>
  cases st with
  | nil=>cases hs
  | cons z st =>
   obtain⟨q,p⟩:=z;simp only[List.map_cons,List.cons.injEq]at hs;obtain⟨rfl,rfl⟩:=hs;rcases Nat.lt_or_ge st.length 3 with h5|h5
   ·exact go (.mid x _ h (by rw[List.length_map];exact h5))
   ·exfalso;have es:spK 6 x=41 ::(Rp.esc x++[92,40]):=rfl;rw[es,List.cons_append]at hd;obtain⟨h0,hi,h2,h3⟩:=a5B hd hp (by decide) (.inl (by decide));obtain⟨-,e1⟩:=a2F (toks:=toks) (st:=st) (q:=q) (p:=0) h0 hi (by rw[h3];rfl);have hd2:u.drop (e+pre.length+1)=Rp.esc x ++(92::40::tl):=by rw[a3d (a:=[41]) (k:=1) h2 rfl];simp
    obtain⟨c,a,ep⟩:=b7M (o:=q) (text:=[]) hd2 h h5;rw[e1,a5z hr,ep]at hy;cases hy
 | head x S h =>
  subst hs;rcases Nat.lt_or_ge st.length 3 with h5|h5
  ·exact go (.head x _ h (by rw[List.length_map];exact h5))
  ·exfalso;have es:spK 5 x=34 ::(Rp.esc x++[92,40]):=rfl;rw[es,List.cons_append]at hd;obtain⟨h0,hi,h2,h3⟩:=a5B hd hp (by decide) (.inl (by decide));have hd2:u.drop (e+pre.length+1)=Rp.esc x ++(92::40::tl):=by rw[a3d (a:=[34]) (k:=1) h2 rfl];simp
   obtain⟨c,a,ep⟩:=b7M (o:=e+pre.length) (text:=[]) hd2 h h5;rw[a4s h0 hi (by rw[h3];exact a5T (by decide)) (by rw[h3];rfl),a5z hr,ep]at hy;cases hy
theorem c6H (hd:u.drop e=pre ++(spK k x++tl))(hp:pre=[]∨pre=[32]∨pre=[10])(ht:TQ k x tl)(hT:TP S k x S'):a0W u e<u.length:=by
 have go:∀{S S':List Int},TS S k x S'->a0W u e<u.length:=fun{S S'} h=>by
  have hm:(S.map fun p=>((0:Nat),p)).map Prod.snd=S:=by rw[List.map_map];exact List.map_id' S
  obtain⟨y,e1,_⟩:=b8b (toks:=[]) (st:=S.map fun p=>((0:Nat),p)) hd hp ht (by rw[hm];exact h) (by simp);obtain⟨t,_,e2,e3,_⟩:=b8a e1;rw[<-e2];exact e3
 cases hT with
 | of h=>exact go h
 | mid x S h=>exact go (.mid x [] h (by simp))
 | head x S h=>exact go (.head x [] h (by simp))
inductive Ch:List Int->List (Int×List UInt8)->List Int->Prop
 | nil (S:List Int):Ch S [] S
 | cons {S S1 S2:List Int} {p:Int×List UInt8} {r:List (Int×List UInt8)}:TP S p.1 p.2 S1->Ch S1 r S2->Ch S (p::r) S2
theorem Ch.app {S1:List Int}{b:List (Int×List UInt8)}(h:Ch S a S1)(g:Ch S1 b S2):Ch S (a++b) S2:=by
 induction h with
 | nil S=>exact g
 | cons h1 _ ih=>exact .cons h1 (ih g)
inductive Cs:List Int->List (Int×List UInt8)->List Int->Prop
 | nil (S:List Int):Cs S [] S
 | cons {S S1 S2:List Int} {p:Int×List UInt8} {r:List (Int×List UInt8)}:TS S p.1 p.2 S1->Cs S1 r S2->Cs S (p::r) S2
inductive Ly:List (Int×List UInt8)->List UInt8->Prop
 | nil:Ly [] []
 | nl:Ly [] [10]
 | cons {p:Int×List UInt8} {r:List (Int×List UInt8)} {pre t:List UInt8}:(pre=[]∨pre=[32]∨pre=[10])->TQ p.1 p.2 t->Ly r t->Ly (p::r) (pre ++(spK p.1 p.2++t))
theorem ly_end (h:Ly [] (u.drop e)):u.length<=a0W u e:=by
 generalize ht:u.drop e=t at h;cases h with
 | nil =>
  have hl:u.length<=e:=by simpa using ht
  rw[b5v hl];exact hl
 | nl =>
  have hl:=b7n ht;have hb:u.getD e 0=10:=by have:=getD_drop u e 0;rw[ht]at this;exact this
  simp only[List.length_nil]at hl;rw[a9A (by omega) (by rw[hb];decide),b5v (by omega)];omega
def spW (l:List (Int×List UInt8)):List UInt8:=[32].intercalate (l.map fun p=>spK p.1 p.2)
theorem b0C (p:Int×List UInt8)(l:List (Int×List UInt8)):spW (p::l)=spK p.1 p.2 ++(match l with | []=>[]|_::_=>32::spW l):=by
 cases l with
 | nil=>simp[spW,List.intercalate]
 | cons u l=>simp[spW,List.intercalate]
theorem ly_sp {b:List (Int×List UInt8)}{t:List UInt8}(hb:Ly b t)(ht:TL t):∀(ws:List (Int×List UInt8)) (pre:List UInt8),(pre=[]∨pre=[32]∨pre=[10])->ws ≠ []->Ly (ws++b) (pre ++(spW ws++t))
 | [],_,_,h=>absurd rfl h
 | [p],pre,hp,_=>by
  have e:spW [p]=spK p.1 p.2:=by rw[b0C];simp
  rw[e];exact .cons hp (.inl ht) hb
 | p::q::r,pre,hp,_=>by
  rw[b0C,List.append_assoc];exact .cons hp (.inl (.inr ⟨32,_,rfl,.inl rfl⟩)) (ly_sp hb ht (q::r) [32] (.inr (.inl rfl)) (by simp))
theorem walk {x z:MS}(h:Reach u x z)(hz:stepM u z=.done l):∀(ws:List (Int×List UInt8)) (S:List Int),Ch (x.st.map Prod.snd) ws S->Ly ws (u.drop x.i)->KT z.toks=KT x.toks++ws:=by
 induction h with
 | refl x =>
  intro ws S hc hd;cases hc with
  | nil=>simp
  | @cons _ S1 _ p r h1 h2 =>
   exfalso;generalize ht:u.drop x.i=t at hd;cases hd with
   | cons hp ht2 hr =>
    have:=c6H ht hp ht2 h1;have:=(a5Q hz).2;omega
 | step x y z h1 h2 ih =>
  intro ws S hc hd;cases hc with
  | nil =>
   exfalso;obtain⟨t,_,e2,e3,_⟩:=b8a h1;have hl:=ly_end hd;omega
  | @cons _ S1 _ p r k1 k2 =>
   generalize ht:u.drop x.i=t at hd;cases hd with
   | @cons _ _ pre t hp ht2 hr =>
   obtain⟨i',toks',st'⟩:=x;obtain⟨⟨a,b,g1⟩,g2,g3⟩:=b9J (toks:=toks') ht hp ht2 k1 h1;rw[<-g3]at k2;rw[ih hz r S k2 (by
    simp only at ht;rw[g2,<-List.drop_drop,<-List.drop_drop,ht,List.drop_left,List.drop_left];exact hr),g1]
   simp[KT]
theorem walk2 {x z:MS}(h:Reach u x z)(hz:stepM u z=.done l):∀(a b:List (Int×List UInt8)) (S1 S2:List Int),Ch (x.st.map Prod.snd) a S1->Ch S1 b S2->Ly (a++b) (u.drop x.i)->Cs (x.st.map Prod.snd) a S1:=by
 induction h with
 | refl x =>
  intro a b S1 S2 hc hc2 hd;cases hc with
  | nil=>exact .nil _
  | @cons _ S1 _ p r h1 h2 =>
   exfalso;generalize ht:u.drop x.i=t at hd;cases hd with
   | cons hp ht2 hr =>
    have:=c6H ht hp ht2 h1;have:=(a5Q hz).2;omega
 | step x y z h1 h2 ih =>
  intro a b S1 S2 hc hc2 hd;cases hc with
  | nil=>exact .nil _
  | @cons _ S3 _ p r k1 k2 =>
   generalize ht:u.drop x.i=t at hd;cases hd with
   | @cons _ _ pre t hp ht2 hr =>
   obtain⟨i',toks',st'⟩:=x;obtain⟨⟨a',b',g1⟩,g2,g3⟩:=b9J (toks:=toks') ht hp ht2 k1 h1;obtain⟨t',e1,_,e3⟩:=b5x h1;rw[g1]at e1;simp only[List.append_cancel_left_eq,List.cons.injEq,and_true]at e1;rw[<-e1,g3]at e3;refine .cons e3 ?_;rw[<-g3]at k2 ⊢;exact ih hz r b S1 S2 k2 hc2 (by
    simp only at ht;rw[g2,<-List.drop_drop,<-List.drop_drop,ht,List.drop_left,List.drop_left];exact hr)
theorem said {b:List (Int×List UInt8)}(hc:Ch [] a S)(hc2:Ch S b S2)(hy:Ly (a++b) u)(h8:u.length<=8000)(h:a2y u=.done l):KT l=a++b/\Cs [] a S:=by
 have he:=(a6L u).2.2 h8;rw[h]at he;obtain⟨z,h1,h2,_⟩:=he;have e1:=walk h1 h2 (a++b) S2 (hc.app hc2) hy;rw[(a5Q h2).1]at e1;exact⟨by simpa [KT]using e1,walk2 h1 h2 a b S S2 hc hc2 hy⟩
theorem c1M {u:List UInt8}:∀(ws:List (Int×List UInt8)) (e:Nat) (toks:List Tok) (st:List (Nat×Int)) (S:List Int),Cs (st.map Prod.snd) ws S->Ly ws (u.drop e)->toks.length+ws.length<=3000 -> ∃e' toks' st',Reach u ⟨e,toks,st⟩ ⟨e',toks',st'⟩/\KT toks'=KT toks++ws/\u.length<=a0W u e'/\st'.map Prod.snd=S
 | [],e,toks,st,S,hc,hd,_=>by
  cases hc;exact⟨e,toks,st,.refl _,by simp,ly_end hd,rfl⟩
 | p::ws,e,toks,st,S,hc,hd,hl=>by
  simp only[List.length_cons]at hl;cases hc with
  | @cons _ S1 _ _ _ k1 k2 =>
   generalize ht:u.drop e=t at hd;cases hd with
   | @cons _ _ pre t hp ht2 hr =>
   obtain⟨⟨i',toks',st'⟩,h1,⟨a,l,h2⟩,h3,h4⟩:=b8b (toks:=toks) ht hp ht2 k1 (by omega);simp only at h2 h3 h4;subst h2;subst h3;rw[<-h4]at k2;obtain⟨e',toks',st2,g1,g2,g3,g4⟩:=c1M ws (e+pre.length+(spK p.1 p.2).length) (toks++[⟨p.1,p.2,a,l⟩]) st' S k2 (by
    rw[<-List.drop_drop,<-List.drop_drop,ht,List.drop_left,List.drop_left];exact hr) (by simp;omega)
   exact⟨e',toks',st2,.step _ _ _ h1 g1,by rw[g2];simp[KT],g3,g4⟩
theorem say {ws:List (Int×List UInt8)}(hc:Cs [] ws [])(hy:Ly ws u)(hl:ws.length<=3000)(h8:u.length<=8000):∃m,a2y u=.done m/\KT m=ws:=by
 obtain⟨e',toks',st',h1,h2,h3,h4⟩:=c1M (u:=u) ws 0 [] [] [] hc hy (by simpa using hl);have hs:st'=[]:=by simpa using h4
 subst hs;exact⟨toks',Ends.det _ ((a6L u).2.2 h8) ⟨_,h1,a4U rfl h3,fun z hz=>(by cases hz)⟩,by simpa [KT]using h2⟩
variable {l:List Tok} {s:List UInt8} {x y:MS}
def tlen:PR->Nat | .fin t _=>t.length | .more t _=>t.length | .err _ _=>0
theorem b2Q (s:List UInt8)(q ins:Nat):∀(f i:Nat) (text:List UInt8),tlen (a7a s q ins f i text)<=text.length+(s.length-i)
 | 0,i,text=>Nat.zero_le _
 | f+1,i,text=>by
  have h1:=b2Q s q ins f (i+1) (text++[s.getD i 0]);have h2:=b2Q s q ins f (i+2) (text++[10]);have h3:=b2Q s q ins f (i+2) (text++[9]);have h4:=b2Q s q ins f (i+2) (text++[s.getD (i+1) 0]);simp only[List.length_append,List.length_singleton]at h1 h2 h3 h4;rcases Nat.lt_or_ge i s.length with hi|hi
  ·simp only[a7a];repeat' split
   all_goals first|exact Nat.zero_le _ |(simp only[tlen];omega)|omega
  ·have:(decide (i<s.length)&&decide (32 <=(s.getD i 0).toNat))=false:=by rw[Bool.and_eq_false_iff,decide_eq_false_iff_not];exact .inl (by omega)
   simp only[a7a,this];exact Nat.zero_le _
theorem c5Z {toks:List Tok}{st:List (Nat×Int)}{q j ins:Nat}{a b:Int}(h:a2k toks st q j a b (part s q ins (j+1) [])=.go y) :
  ∃t:Tok,y.toks=toks++[t]/\t.t.length<=s.length:=by
 have hp:=b2Q s q ins (s.length-(j+1)) (j+1) [];simp only[List.length_nil,Nat.zero_add]at hp;have hp:tlen (part s q ins (j+1) [])<=_:=hp;cases hq:part s q ins (j+1) []with
 | err c a=>rw[hq]at h;cases h
 | fin t e =>
  rw[hq]at h hp;simp only[a2k]at h;simp only[tlen]at hp;cases h;exact⟨_,rfl,show t.length<=_ by omega⟩
 | more t e =>
  rw[hq]at h hp;simp only[a2k]at h;simp only[tlen]at hp;cases h;exact⟨_,rfl,show t.length<=_ by omega⟩
theorem b94 (s:List UInt8)(a b:Nat):((s.take a).drop b).length<=s.length:=by
 rw[List.length_drop,List.length_take];omega
theorem c27 (s:List UInt8)(i:Nat):∀k,(a2w s i k).length<=s.length
 | 0=>Nat.zero_le _
 | k+1=>by
  unfold a2w;split
  ·exact b94 _ _ _
  ·exact c27 s i k
theorem step_txt (h:stepM s x=.go y):∃t:Tok,y.toks=x.toks++[t]/\t.t.length<=s.length:=by
 obtain⟨i0,toks,st⟩:=x;obtain⟨i,h0⟩:∃i,a0W s i0=i:=⟨_,rfl⟩
 show ∃t:Tok,y.toks=toks++[t]/\_;rcases Nat.lt_or_ge i s.length with hi|hi
 ·cases hc:closes (s.getD i 0).toNat st with
  | true =>
   cases st with
   | nil=>cases hc
   | cons z st =>
    obtain⟨q,p⟩:=z;rw[(a2F h0 hi hc).2]at h;exact c5Z (a1B h).2
  | false =>
   by_cases h1:(s.getD i 0).toNat=34
   ·rw[a4s h0 hi hc h1]at h;exact c5Z (a1B h).2
   ·cases h2:U5 (s.getD i 0)with
    | true =>
     rw[a3v h0 hi hc h1 h2]at h;have h:=(a1B h).2;split at h
     ·cases h
     ·cases h;exact⟨_,rfl,b94 _ _ _⟩
    | false =>
     cases h3:a1b (s.getD i 0)with
     | true =>
      rw[a2G h0 hi hc h1 h2 h3]at h;have h:=(a1B h).2;split at h
      ·cases h
      ·cases h;exact⟨_,rfl,b94 _ _ _⟩
     | false =>
      cases hw:a2w s i 2 with
      | nil=>rw[a5P h0 hi hc h1 h2 h3 hw]at h;cases h
      | cons b w =>
       have hl:=c27 s i 2;rw[hw]at hl;rw[a2p h0 hi hc h1 h2 h3 hw (by simp)]at h;have h:=(a1B h).2;cases h;exact⟨_,rfl,hl⟩
 ·cases st with
  | nil=>rw[a4U h0 hi]at h;cases h
  | cons z st=>obtain⟨q,p⟩:=z;rw[a5R h0 hi]at h;cases h
theorem c7B (h:Reach s x y):(∀t∈x.toks,t.t.length<=s.length) -> ∀t∈y.toks,t.t.length<=s.length:=by
 induction h with
 | refl x=>exact fun h=>h
 | step x y z h1 _ ih =>
  intro h2;obtain⟨t,g1,g2⟩:=step_txt h1;refine ih fun u hu=>?_;rw[g1]at hu;rcases List.mem_append.1 hu with hu|hu
  ·exact h2 u hu
  ·rcases List.mem_singleton.1 hu with rfl;exact g2
theorem tok_txt (h:a2y s=.done l):∀t∈l,t.t.length<=8000:=by
 obtain⟨h1,_,h2⟩:=a6L s;have h3:=(h1.lay l h).1;obtain⟨y,g1,g2,_⟩:=h2 h3;rw[h]at g2;rw[<-(a5Q g2).1];exact fun t ht=>Nat.le_trans (c7B g1 (fun t ht=>by cases ht) t ht) h3
def V1 (kd:Int)(s:List UInt8):Prop :=
 (kd=1∨kd=2->s ≠ []/\a1b (s.headD 0)=true/\s.all a2J=true/\ltB 24 (s.length:Nat)=false/\a4F s=kd)/\(kd=3->IntW s/\s.all U5=true /\ ∀c,a1b c=false->a4y s c=false)/\(4<=kd/\kd<=7->s.all okB=true/\s.length<=8000)
theorem ts_V1 {S S':List Int}{k:Int}{x:List UInt8}(h:TS S k x S')(hl:x.length<=8000)(hi:k=3->IntW x):V1 k x:=by
 have lit:∀{k:Int},(k=4∨k=5∨k=6∨k=7)->x.all okB=true->V1 k x:=fun hk ho=>⟨fun h=>by omega,fun h=>by omega,fun _=>⟨ho,hl⟩⟩
 cases h with
 | tail _ _ h=>exact lit (by omega) h
 | mid _ _ h _=>exact lit (by omega) h
 | text _ _ h=>exact lit (by omega) h
 | head _ _ h _=>exact lit (by omega) h
 | int _ _ h h1 h2=>exact⟨fun h=>by omega,fun _=>⟨hi rfl,h1,h2⟩,fun h=>by omega⟩
 | name _ _ h h0 h1 h2 =>
  refine⟨fun _=>⟨h,h0,h1,h2,rfl⟩,fun h=>absurd h (c2i _),fun h=>?_⟩;exfalso;revert h;unfold a4F;split
  ·omega
  ·split<;>omega
 | sign _ _ h h1=>exact⟨fun h=>by omega,fun h=>by omega,fun h=>by omega⟩
theorem reach_ts (h:Reach s x y):(∀t∈x.toks,∃S S',TS S t.k t.t S') -> ∀t∈y.toks,∃S S',TS S t.k t.t S':=by
 induction h with
 | refl x=>exact fun h=>h
 | step x y z h1 _ ih =>
  intro h2;obtain⟨t,g1,_,g2⟩:=b5x h1;refine ih fun u hu=>?_;rw[g1]at hu;rcases List.mem_append.1 hu with hu|hu
  ·exact h2 u hu
  ·rcases List.mem_singleton.1 hu with rfl;exact⟨_,_,g2⟩
theorem tok_V1 (h:a2y s=.done l):∀t∈l,V1 t.k t.t:=by
 intro t ht;obtain⟨h1,_,h2⟩:=a6L s;obtain⟨y,g1,g2,_⟩:=h2 (h1.lay l h).1;rw[h]at g2;obtain⟨S,S',g3⟩:=reach_ts g1 (fun t ht=>by cases ht) t (by rw[(a5Q g2).1];exact ht);exact ts_V1 g3 (tok_txt h t ht) (tok_int h t ht)
def okS (S:List Int):Prop:=S=[] ∨ ∃p r,S=p::r/\0<=p
theorem SG_ok:SGL.all (fun s=>a9g a1j s&&(!decide ((s.headD 0).toNat=41)&&(!decide (s=[40]) && !decide (s=[41]))))=true:=by decide
theorem KY_ok:KYL.all (fun s=>!decide (s=[])&&(a1b (s.headD 0)&&(s.all a2J&&(decide (s.length<=24)&&decide (a4F s=9)))))=true:=by decide
theorem b8V {b:Nat}(h:b≠41):∀S,b6S b S=false
 | []=>rfl
 | p::_=>by simp only[b6S,decide_eq_false h,Bool.and_false]
theorem ch_sign (h:s∈SGL)(S:List Int):TS S 8 s S:=by
 have h1:=List.all_eq_true.1 SG_ok s h;simp only[Bool.and_eq_true,Bool.not_eq_true',decide_eq_false_iff_not]at h1;obtain⟨g1,g2,g3,g4⟩:=h1;have e:b5E s S=S:=by
  cases S with
  | nil=>rfl
  | cons p r=>simp only[b5E,decide_eq_false g3,decide_eq_false g4]
 have:=TS.sign s S g1 (b8V g2 S);rw[e]at this;exact this
theorem ch_key (h:s∈KYL)(S:List Int):TS S 9 s S:=by
 have h1:=List.all_eq_true.1 KY_ok s h;simp only[Bool.and_eq_true,Bool.not_eq_true',decide_eq_false_iff_not,decide_eq_true_eq]at h1;obtain⟨g1,g2,g3,g4,g5⟩:=h1;have:=TS.name s S g1 g2 g3 (a0C (by omega));rw[g5]at this;exact this
theorem ch_tok {p:Int×List UInt8}(h:KO V1 p)(S:List Int):TS S p.1 p.2 S:=by
 obtain⟨k,s⟩:=p;rcases h with⟨hk,hv⟩ |⟨hk,hs⟩ |⟨hk,hs⟩|h
 ·simp only at hk hv ⊢;rcases hk with rfl|rfl|rfl|rfl
  ·obtain⟨g1,g2,g3,g4,g5⟩:=hv.1 (.inl rfl);have:=TS.name s S g1 g2 g3 g4;rw[g5]at this;exact this
  ·obtain⟨g1,g2,g3,g4,g5⟩:=hv.1 (.inr rfl);have:=TS.name s S g1 g2 g3 g4;rw[g5]at this;exact this
  ·obtain⟨g1,g2,g3⟩:=hv.2.1 rfl;exact .int s S g1.1 g2 g3
  ·exact .text s S (hv.2.2 (by omega)).1
 ·simp only at hk hs ⊢;subst hk;exact ch_sign hs S
 ·simp only at hk hs ⊢;subst hk;exact ch_key hs S
 ·obtain⟨rfl,rfl⟩:=Prod.mk.inj h;have:=TS.name [95] S (by decide) (by decide) (by decide) (a0C (by decide));rw[show a4F [95]=1 by
   unfold a4F;rw[show a9g a4n [95]=false by decide,show leB (65:Int) (([95]:List UInt8).getD 0 0).toNat=true from b9d (by decide),show leB (([95]:List UInt8).getD 0 0).toNat (90:Int)=false from c2n (by decide)];rfl]at this
  exact this
theorem ch_open (S:List Int):TS S 8 [40] (b5E [40] S):=.sign [40] S (by decide) (b8V (by decide) S)
theorem ch_iw {vs:List (List (Int×List UInt8)×List UInt8)}(h:∀v∈vs,∀S,okS S->Ch S v.1 S)(g:∀v∈vs,V1 4 v.2):vs ≠ [] -> ∀S,Ch (0::S) (iw vs) S:=by
 induction vs with
 | nil=>exact fun h=>absurd rfl h
 | cons v r ih =>
  intro _ S;have h1:=h v (by simp) (0::S) (.inr ⟨0,S,rfl,by omega⟩);have h2:=((g v (by simp)).2.2 (by omega)).1;cases r with
  | nil=>rw[iw];exact h1.app (.cons (.of (.tail _ S h2)) (.nil _))
  | cons q r=>rw[iw];exact h1.app (.cons (.mid _ S h2) (ih (fun v hv=>h v (by simp[hv])) (fun v hv=>g v (by simp[hv])) (by simp) S))
theorem bal_ch {w:List (Int×List UInt8)}(h:Bal V1 w):∀S,okS S->Ch S w S:=by
 induction h with
 | nil=>exact fun S _=>.nil S
 | tok h1 _ ih=>exact fun S hS=>.cons (.of (ch_tok h1 S)) (ih S hS)
 | @par w r h1 h2 ih1 ih2 =>
  intro S hS;refine .cons (.of (ch_open S)) ?_;rcases hS with rfl |⟨p,q,rfl,hp⟩
  ·exact(ih1 [] (.inl rfl)).app (.cons (.of (.sign [41] [] (by decide) rfl)) (ih2 [] (.inl rfl)))
  ·refine(ih1 _ (.inr ⟨p+1,q,rfl,by omega⟩)).app (.cons (S1:=p::q) (.of ?_) (ih2 _ (.inr ⟨p,q,rfl,hp⟩)));have:=TS.sign [41] ((p+1)::q) (by decide) (by simp only[b6S];rw[decide_eq_false (show ¬p+1=0 by omega)];rfl);have e:b5E [41] ((p+1)::q)=p::q:=by
    show(p+1-1)::q=p::q;rw[show p+1-1=p by omega]
   rw[e]at this;exact this
 | @int s vs r h1 h2 h3 h4 h5 ih3 ih5 =>
  intro S hS;exact .cons (.head s S (h1.2.2 (by omega)).1) ((ch_iw ih3 h4 h2 S).app (ih5 S hS))
end Go.Proofs.YtjhfloacokgdiaaGreatDoor.Sc
namespace Go.Proofs.YtjhfloacokgdiaaGreatDoor
open Go Go.Vm Pr
variable {α:Type} {vs:List (List WK)} {bs gs rs th:List Nod} {ws:List Str} {l:List α} {S:List α->Nat} {n:Nat} {x:Nod} {F:α->List Str->Option (List Str)} {c:α->Nat}
def PQ {α:Type}(c:α->Nat)(F:α->List Str->Option (List Str))(x:α)(w:List WK):Prop:=w.length+1<=c x /\ ∀ws:List Str,ws.length+c x<=500001->F x ws=some (ws++sp w)
theorem b2e {α β:Type}{R:α->β->Prop}{f:α->β}:∀{l:List α},(∀x∈l,R x (f x))->V3 R l (l.map f)
 | [],_=>.nil
 | x::r,h=>.cons (h x (by simp)) (b2e fun y hy=>h y (by simp[hy]))
theorem ljw (hS:∀x r,S (x::r)=c x+S r){L:Nat->Int->List Str->Option (List Str)}(hl:l.length<=1000000000)
  (hL:∀m i ws,L (m+1) i ws=cond (ltB i (List.length l:Int)) ((idx' l i).bind fun x=>Option.bind (α:=List Str) (cond (ltB 0 i) ((j5 ([[44]]:List Str) ws).bind fun ws=>some ws) (some ws)) fun ws=>(F x ws).bind fun ws=>L m (w64 (i+1)) ws) (some ws)) (h:V3 (PQ c F) l vs) (hn:l.length<n) (hw:ws.length+S l<=500000):L n 0 ws=some (ws++sp (jo vs)):=by
 refine lp_j (R:=PQ c F) hS (fun x w h=>h.1) hl (fun m i x w ws hx hR e1 e2 e3 e4 hb=>?_) (fun m ws e=>?_) h hn hw
 ·have R:=hR.2;rw[hL,e1,e2];rcases e4 with⟨rfl,e4⟩ |⟨hi,e4⟩
  ·have R:=And.intro R (And.intro e4 e3);rw[if_pos rfl];exact prt
  ·have R:=And.intro R (And.intro e4 e3);rw[if_neg (by omega)];exact prt
 ·rw[hL,e];rfl
theorem pq_le (h0:S []=0)(hS:∀x r,S (x::r)=c x+S r)(h:V3 (PQ c F) l vs):(jo vs).length<=S l/\vs.flatten.length<=S l:=b4F (R:=PQ c F) h0 hS (fun x w h=>h.1) h
theorem c5R (l:List Typ):(jo (WW l)).length<=6*szT l:=by
 have h1:=b0P (WW l);have h2:=sumW l fun x _=>a4C x.sz x (Nat.le_refl _);omega
theorem lty_v {l:List Typ}(hn:3*szT l+10<=n)(hw:ws.length+9*szT l<=500000):Q0 n l ws=some (ws++sp (jo (WW l))):=by
 obtain⟨n,rfl⟩:∃m,n=m+1:=⟨n-1,by omega⟩
 have hl:=a5H l;have h:V3 (PQ (fun t:Typ=>9*t.sz) fun t ws=>H7 n t ws) l (WW l):=by
  rw[a5n];refine b2e fun t ht=>⟨by have:=a4C t.sz t (Nat.le_refl _);show(W t).length+1<=9*t.sz;omega,fun ws hw=>?_⟩
  have:=a3w ht;have:=t.b4l;exact typ_v (by omega) (by simp only at hw;omega)
 show a1r n (w9.fs n) l n 0 ws=_;exact ljw (S:=fun l=>9*szT l) (fun x r=>by simp only[szT];omega) (by omega) (fun m i ws=>rfl) h (by omega) hw
def bdw:List Nod->List WK | []=>[]|b::r=>(8,[58]) ::(2,b.s)::r.flatMap fun b=>[(8,[38]),(2,b.s)]
theorem c5s:∀l:List Nod,(bdw l).length<=2*l.length
 | []=>Nat.le_refl _
 | b::r=>by
  have:∀r:List Nod,(r.flatMap fun b=>[((8:Int),([38]:Str)),(2,b.s)]).length=2*r.length:=fun r=>by
   induction r with
   | nil=>rfl
   | cons x r ih=>rw[List.flatMap_cons,List.length_append,ih];simp only[List.length_cons,List.length_nil];omega
  simp only[bdw,List.length_cons,this];omega
theorem bd_lp {n:Nat}{x:Nod}(hx:x.l.length<=100000):∀(m i:Nat) (ws:List Str),x.l.length<m+i->i<=x.l.length->1<=i->ws.length+2*(x.l.length-i)<=500000->a0Z n x m i ws=some (ws++sp ((x.l.drop i).flatMap fun b=>[(8,[38]),(2,b.s)]))
 | 0,i,ws,h1,_,_,_=>by omega
 | m+1,i,ws,h1,h2,h3,h4=>by
  rw[a0Z.eq_2];rcases Nat.lt_or_ge i x.l.length with h|h
  ·rw[X6 (by omega),a0k h,drop_eq h,List.flatMap_cons,a1t (show ¬(i:Int)=0 by omega),H6 (show i<=1000000000000 by omega)];have R:=fun(ws:List Str) (hw:ws.length+2*(x.l.length-(i+1))<=500000)=>bd_lp (n:=n) hx m (i+1) ws (by omega) (by omega) (by omega) hw;exact prt
  ·rw[a0C (by omega),List.drop_eq_nil_of_le h];simp[sp]
theorem bd_v (hn:x.l.length+2<=n)(hx:x.l.length<=100000)(hw:ws.length+2*x.l.length<=500000):a1a n x ws=some (ws++sp (bdw x.l)):=by
 unfold a1a;obtain⟨m,rfl⟩:∃m,n=m+1:=⟨n-1,by omega⟩
 rw[a0Z.eq_2];have R:1<=x.l.length -> ∀ws:List Str,ws.length+2*(x.l.length-1)<=500000->a0Z (m+1) x m 1 ws=some (ws++sp ((x.l.drop 1).flatMap fun b=>[(8,[38]),(2,b.s)])):=fun h1 ws hw=>bd_lp (n:=m+1) hx m 1 ws (by omega) h1 (Nat.le_refl _) hw;cases e:x.l with
 | nil=>rw[a0C (by simp)];simp[bdw,sp]
 | cons b r =>
  rw[e]at R hw;rw[X6 (by simp only[List.length_cons];omega),show idx' (b::r) 0=some b from a0k (l:=b::r) (i:=0) (Nat.succ_pos _),a0z (rfl:(0:Int)=0),show w64 (0+1)=1 by decide];have R:=R (by simp only[List.length_cons];omega);simp only[List.drop_succ_cons,List.drop_zero,List.length_cons,Nat.add_sub_cancel]at R hw;unfold bdw;exact prt
def gw (g:Nod):List WK:=(2,g.s)::bdw g.l
def gnw (gs:List Nod):List WK:=match gs with
 | []=>[]
 | g::r=>(8,[60]) ::(jo ((g::r).map gw)++[(8,[62])])
theorem g_all (hn:szN gs+10<=n)(hz:szN gs<=20000):V3 (PQ (fun x:Nod=>8*x.sz) fun g ws=>a0A n g ws) gs (gs.map gw):=b2e fun g hg=>by
 have h1:=a1Q hg;have h2:=R9 g.l;have h3:=c5s g.l;have hs:=g.a3X;refine⟨by unfold gw;simp only[WL];omega,fun ws hw=>?_⟩;simp only at hw;have R:=fun(ws:List Str) (hw:ws.length+2*g.l.length<=500000)=>bd_v (n:=n) (x:=g) (ws:=ws) (by omega) (by omega) hw;show a0A n g ws=_;unfold a0A gw;exact prt
theorem c5L (hz:szN gs<=20000):(gnw gs).length<=8*szN gs+2:=by
 have:=(pq_le (S:=fun l=>8*szN l) rfl c8 (g_all (n:=szN gs+10) (Nat.le_refl _) hz)).1;cases gs with
 | nil=>simp[gnw]
 | cons g r=>unfold gnw;simp only[WL];omega
theorem gn_v (ho:a1J n x [8]=some gs)(hn:szN gs+10<=n)(hz:szN gs<=20000)(hw:ws.length+8*szN gs+4<=500000):a1f n x ws=some (ws++sp (gnw gs)):=by
 have hl:=a00 gs;have h:=g_all hn hz;have hj:=(pq_le (S:=fun l=>8*szN l) rfl c8 h).1;have R:=fun(ws:List Str) (hw:ws.length+8*szN gs<=500000)=>show a5G n gs ws=_ from ljw (S:=fun l=>8*szN l) (L:=fun m i ws=>a5M n gs m i ws) c8 (by omega) (fun m i ws=>rfl) h (n:=n) (by omega) hw;unfold a1f;rw[ho];cases gs with
 | nil=>simp[NF,gnw,sp,eqB]
 | cons g r =>
  have e:eqB ((g::r).length:Int) 0=false:=a1t (by simp only[List.length_cons];omega);unfold gnw;simp only[Option.bind_some,e];exact prt
def rqw (r:Nod):List WK:=W r.t++cond (eqB r.n 2) ((8,[61,61])::jo (WW r.ts)) [(8,[58]),(2,r.s)]
def whw (rs:List Nod):List WK:=match rs with
 | []=>[]
 | g::r=>(9,[119,104,101,114,101])::jo ((g::r).map rqw)
theorem c10 (x:Nod)(r:List Nod):(fun l=>10*szN l) (x::r) =(fun x=>10*x.sz) x+(fun l=>10*szN l) r:=by simp only[szN];omega
theorem r_all (hn:3*szN rs+20<=n)(hz:szN rs<=20000):V3 (PQ (fun x:Nod=>10*x.sz) fun g ws=>a1g n g ws) rs (rs.map rqw):=b2e fun g hg=>by
 have h1:=a1Q hg;have hs:=g.a3X;have h2:=a4C g.t.sz g.t (Nat.le_refl _);have h3:=c5R g.ts;refine⟨by unfold rqw;cases eqB g.n 2<;>simp only[NF,WL]<;>omega,fun ws hw=>?_⟩;simp only at hw;have R:=fun(ws:List Str) (hw:ws.length+9*szT g.ts<=500000)=>lty_v (n:=n) (l:=g.ts) (ws:=ws) (by omega) hw;show a1g n g ws=_;unfold a1g rqw;cases e:eqB g.n 2
 ·have R:=And.intro R e;exact prt
 ·have R:=And.intro R e;exact prt
theorem c6G (hz:szN rs<=20000):(whw rs).length<=10*szN rs+2:=by
 have:=(pq_le (S:=fun l=>10*szN l) rfl c10 (r_all (n:=3*szN rs+20) (Nat.le_refl _) hz)).1;cases rs with
 | nil=>simp[whw]
 | cons g r=>unfold whw;simp only[WL];omega
theorem wh_v (ho:a1J n x [12]=some rs)(hn:3*szN rs+20<=n)(hz:szN rs<=20000)(hw:ws.length+10*szN rs+4<=500000):a2b n x ws=some (ws++sp (whw rs)):=by
 have hl:=a00 rs;have h:=r_all hn hz;have hj:=(pq_le (S:=fun l=>10*szN l) rfl c10 h).1;have R:=fun(ws:List Str) (hw:ws.length+10*szN rs<=500000)=>show a4g n rs ws=_ from ljw (S:=fun l=>10*szN l) (L:=fun m i ws=>a4t n rs m i ws) c10 (by omega) (fun m i ws=>rfl) h (n:=n) (by omega) hw;unfold a2b;rw[ho];cases rs with
 | nil=>simp[NF,whw,sp,eqB]
 | cons g r =>
  have e:eqB ((g::r).length:Int) 0=false:=a1t (by simp only[List.length_cons];omega);unfold whw;simp only[Option.bind_some,e];exact prt
def thw (th:List Nod):List WK:=match th with
 | []=>[]
 | x::_=>(9,[116,104,114,111,119,115]) ::(8,[40]) ::(W x.t++[(8,[41])])
theorem thw_len:(thw th).length<=8*szN th:=by
 cases th with
 | nil=>simp[thw]
 | cons x r =>
  have h2:=a4C x.t.sz x.t (Nat.le_refl _);have hs:=x.a3X;unfold thw;simp only[WL,szN];omega
theorem th_v (ht:th.length<=1)(hn:3*szN th+20<=n)(hw:ws.length+8*szN th+8<=500000):Z5 n n th (List.length th:Int) 0 ws=some (ws++sp (thw th)):=by
 obtain⟨m,rfl⟩:∃m,n=m+2:=⟨n-2,by omega⟩
 rcases th with _ |⟨x,_ |⟨y,r⟩⟩
 ·rw[Z5.eq_2,a0C (by simp)];simp[thw,sp,NF]
 ·have hs:=x.a3X;have h2:=a4C x.t.sz x.t (Nat.le_refl _);simp only[szN]at hn hw;rw[Z5.eq_2,X6 (by simp),show idx' [x] 0=some x from a0k (l:=[x]) (i:=0) Nat.zero_lt_one,show w64 (0+1)=1 by decide];have R:∀ws:List Str,Z5 (m+2) (m+1) [x] ((List.length [x]:Nat):Int) 1 ws=some ws:=fun ws=>by
   rw[Z5.eq_2,a0C (by simp)];rfl
  unfold thw;exact prt
 ·simp only[List.length_cons]at ht;omega
def PFn (x:Nod)(w:List WK):Prop:=w.length+1<=10*x.sz /\ ∀n ws,20*x.sz+60<=n->ws.length+10*x.sz<=500000->X5 n x ws=some (ws++sp w)
def sgw (s:Str)(t:Typ)(gs:List Nod)(us:List (List WK))(th rs:List Nod):List WK:=(9,[102,117,110,99]) ::(1,s) ::(gnw gs ++(cw us ++(thw th ++(rsw t++whw rs))))
theorem fop {l:List Nod}{c:Int}(h:∀y∈l,y.op=c)(o:Int):l.filter (fun y=>eqB y.op o)=if c=o then l else []:=by
 split
 ·rename_i e;exact List.filter_eq_self.2 fun y hy=>a0z ((h y hy).trans e)
 ·rename_i e;exact List.filter_eq_nil_iff.2 fun y hy=>by rw[a1t (by rw[h y hy];exact e)];simp
theorem put1 {v:List WK}(hb:V3 PB bs [v])(hn:20*szN bs+20<=n)(hw:ws.length+8*szN bs<=500000):a04 n bs n 0 ws=some (ws++sp v):=by
 obtain⟨m,rfl⟩:∃m,n=m+2:=⟨n-2,by omega⟩
 cases hb with
 | @cons b _ l _ h1 h2 =>
  cases h2;simp only[szN]at hn hw;have e:I4 (m+2) b ws=some (ws++sp v):=h1.2 (m+2) ws (by omega) (by omega);rw[a04.eq_2,X6 (by simp),show idx' [b] 0=some b from a0k (l:=[b]) (i:=0) Nat.zero_lt_one,show w64 (0+1)=1 by decide];simp only[NF,e];rw[a04.eq_2,a0C (by simp)];rfl
theorem px_fn {s:Str}{o:Int}{t:Typ}{ps:List Nod}{us:List (List WK)}{a:Int}(hg:∀y∈gs,y.op=8)(hp:∀y∈ps,y.op=10)(ht:∀y∈th,y.op=11)(hl:th.length<=1)(hr:∀y∈rs,y.op=12)(hb:∀y∈bs,y.op=20)
  (hps:V3 PM ps us) (hbs:V3 PB bs vs) (ho:o=1/\bs.length=1∨o=0/\bs=[]) (hz:szN (gs ++(ps ++(th++rs))++bs)<=13000):PFn ⟨7,s,o,t,[],gs ++(ps ++(th++rs))++bs,a⟩ (sgw s t gs us th rs++cond (decide (o=1)) vs.flatten [(8,[59])]):=by
 have e0:=a00 gs;have e1:=a00 ps;have e2:=a00 th;have e3:=a00 rs;have e4:=a00 bs;simp only[SZ]at hz;have l1:=c5L (gs:=gs) (by omega);have l2:=(b3o hps).1;have l3:=thw_len (th:=th);have l4:=(rsw_v (t:=t)).1;have l5:=c6G (rs:=rs) (by omega);have l6:=(b4F (R:=PB) (c:=fun x=>8*x.sz) (S:=fun l=>8*szN l) rfl c8 (fun x w h=>h.1) hbs).2;have tp:=t.b4l;refine⟨?_,fun n ws hn hw=>?_⟩
 ·unfold sgw;rcases ho with⟨rfl,hb1⟩ |⟨rfl,rfl⟩<;>simp only[SZ,WL,NF,Int.reduceEq,decide_true,decide_false]<;>omega
 ·simp only[SZ]at hn hw;have hlen:(gs ++(ps ++(th++rs))++bs).length<=13000:=by simp only[List.length_append];omega
  have of:=fun q=>ofs (n:=n) (x:=⟨7,s,o,t,[],gs ++(ps ++(th++rs))++bs,a⟩) (o:=q) (by show(gs ++(ps ++(th++rs))++bs).length+3<=n;simp only[List.length_append];omega) (by show(gs ++(ps ++(th++rs))++bs).length<=_;omega);simp only[List.filter_append,fop hg,fop hp,fop ht,fop hr,fop hb]at of;have x1:(⟨7,s,o,t,[],gs ++(ps ++(th++rs))++bs,a⟩:Nod).s=s/\(⟨7,s,o,t,[],gs ++(ps ++(th++rs))++bs,a⟩:Nod).t=t/\(⟨7,s,o,t,[],gs ++(ps ++(th++rs))++bs,a⟩:Nod).n=o:=⟨rfl,rfl,rfl⟩
  generalize (⟨7,s,o,t,[],gs ++(ps ++(th++rs))++bs,a⟩:Nod)=x at of x1 ⊢;have o1:=of 8;have o2:=of 10;have o3:=of 11;have o4:=of 12;have o5:=of 20;simp only[Int.reduceEq,if_true,if_false,List.append_nil,List.nil_append]at o1 o2 o3 o4 o5;have R1:=fun(ws:List Str) (hw:ws.length+8*szN gs+4<=500000)=>gn_v (n:=n) (ws:=ws) o1 (by omega) (by omega) hw;have R2:=fun(ws:List Str) (hw:ws.length+8*szN ps+4<=500000)=>(b3o hps).2 n ws (by omega) hw (by omega);have R3:=fun(ws:List Str) (hw:ws.length+8*szN th+8<=500000)=>th_v (n:=n) hl (ws:=ws) (by omega) hw;have R4:=fun(ws:List Str) (hw:ws.length+8*t.sz+1<=500000)=>(rsw_v (t:=t)).2 n ws (by omega) hw;have R5:=fun(ws:List Str) (hw:ws.length+10*szN rs+4<=500000)=>wh_v (n:=n) (ws:=ws) o4 (by omega) (by omega) hw;unfold X5 sgw;rcases ho with⟨rfl,hb1⟩ |⟨rfl,rfl⟩
  ·obtain⟨v,rfl⟩:∃v,vs=[v]:=by
    have:=hbs.len;rcases vs with _ |⟨v,_ |⟨w,r⟩⟩
    ·simp only[List.length_nil]at this;omega
    ·exact⟨v,rfl⟩
    ·simp only[List.length_cons]at this;omega
   have R6:=fun(ws:List Str) (hw:ws.length+8*szN bs<=500000)=>put1 (n:=n) hbs (by omega) hw;have R:=And.intro x1 (And.intro o2 (And.intro o3 (And.intro o5 (And.intro R1 (And.intro R2 (And.intro R3 (And.intro R4 (And.intro R5 R6))))))));simp only[List.flatten_cons,List.flatten_nil,List.append_nil];exact prt
  ·have R:=And.intro x1 (And.intro o2 (And.intro o3 (And.intro R1 (And.intro R2 (And.intro R3 (And.intro R4 R5))))));exact prt
variable {a o:Int} {vs:List (List WK)} {ops:List Int} {l:List Nod} {n:Nat} {F:Nat->Nod->List Str->Option (List Str)} {x:Nod} {s:Str} {t:Typ}
def PZ (F:Nat->Nod->List Str->Option (List Str))(x:Nod)(w:List WK):Prop:=w.length+1<=10*x.sz /\ ∀n ws,20*x.sz+60<=n->ws.length+10*x.sz<=500000->F n x ws=some (ws++sp w)
theorem pz_le (h:V3 (PZ F) l vs):vs.flatten.length<=10*szN l:=(b4F (R:=PZ F) (S:=fun l=>10*szN l) rfl c10 (fun x w h=>h.1) h).2
theorem lfw (h:V3 (PZ F) l vs){L:Nat->Int->List Str->Option (List Str)}(hL:∀m i ws,L (m+1) i ws=cond (ltB i (List.length l:Int)) (Option.bind (α:=List Str) ((idx' l i).bind fun x=>F n x ws) fun ws=>L m (w64 (i+1)) ws) (some ws)){ws:List Str}(hn:20*szN l+60<=n)(hw:ws.length+10*szN l<=500000):L n 0 ws=some (ws++sp vs.flatten):=by
 have hl:=a00 l;refine lp_f (R:=PZ F) (c:=fun x=>10*x.sz) (S:=fun l=>10*szN l) (fin:=some) c10 (fun x w h=>h.1) (by omega) (fun m i x w ws hx hR e1 e2 e3 hb=>?_) (fun m ws e=>?_) h (by omega) hw
 ·have:=a1Q hx;rw[hL,e1,e2];simp only[NF,hR.2 n ws (by omega) hb,e3]
 ·rw[hL,e];rfl
theorem pm_fld (ho:o=0∨o=1):PZ J9 ⟨13,s,o,t,[],[],a⟩ ((9,cond (decide (o=1)) [118,97,114] [108,101,116]) ::(1,s) ::(8,[58]) ::(W t++[(8,[59])])):=by
 have t0:=a4C t.sz t (Nat.le_refl _);refine⟨by simp only[SZ,WL]at *;omega,fun n ws hn hw=>?_⟩;simp only[SZ]at hn hw;have R:=True.intro;unfold J9;rcases ho with rfl|rfl<;>exact prt
def csw (ts:List Typ):List WK:=match ts with
 | []=>[]
 | t::r=>(8,[40]) ::(jo (WW (t::r))++[(8,[41])])
theorem pm_case {ts:List Typ}(ho:o=0∨o=1):PZ J9 ⟨14,s,o,zT,ts,[],a⟩ (cond (decide (o=1)) [(9,[105,110,100,105,114,101,99,116])] [] ++((9,[99,97,115,101]) ::(1,s) ::(csw ts++[(8,[59])]))):=by
 have t0:=c5R ts;have l0:(csw ts).length<=6*szT ts+2:=by
  cases ts with
  | nil=>simp[csw]
  | cons t r=>unfold csw;simp only[WL];omega
 refine⟨by rcases ho with rfl|rfl<;>simp only[SZ,WL,NF,Int.reduceEq,decide_true,decide_false]<;>omega,fun n ws hn hw=>?_⟩;simp only[SZ]at hn hw;have R0:=fun(ws:List Str) (hw:ws.length+9*szT ts<=500000)=>lty_v (n:=n) (l:=ts) (ws:=ws) (by omega) hw;unfold J9;cases ts with
 | nil =>
  have R:ltB 0 ((([]:List Typ).length:Nat):Int)=false:=a0C (by simp);unfold csw;rcases ho with rfl|rfl<;>exact prt
 | cons t r =>
  have R:=And.intro R0 (show ltB 0 (((t::r).length:Nat):Int)=true from X6 (by simp only[List.length_cons];omega));unfold csw;rcases ho with rfl|rfl<;>exact prt
theorem pm_dei {b:Nod}{v:List WK}(h:PB b v):PZ J9 ⟨15,[],0,zT,[],[b],a⟩ ((9,[100,101,105,110,105,116])::v):=by
 have t0:=h.1;refine⟨by simp only[SZ,WL]at *;omega,fun n ws hn hw=>?_⟩;simp only[SZ]at hn hw;have R:=fun(ws:List Str) (hw:ws.length+8*b.sz<=500001)=>show I4 n b ws=_ from h.2 n ws (by omega) hw;unfold J9;exact prt
def itP (n:Nat)(x:Nod)(ws:List Str):Option (List Str):=cond (eqB x.op 16) ((j5 ([[116,121,112,101],x.s]:List Str) ws).bind fun ws=>(a1a n x ws).bind fun ws=>(j5 ([[59]]:List Str) ws).bind fun ws=>some ws) ((X5 n x ws).bind fun ws=>some ws)
def itE (n:Nat)(x:Nod)(ws:List Str):Option (List Str):=cond (eqB x.op 17) ((j5 ([[116,121,112,101],x.s,[61]]:List Str) ws).bind fun ws=>(H7 n x.t ws).bind fun ws=>(j5 ([[59]]:List Str) ws).bind fun ws=>some ws) ((X5 n x ws).bind fun ws=>some ws)
theorem pi_assoc:PZ itP ⟨16,s,0,zT,[],l,a⟩ ((9,[116,121,112,101]) ::(2,s) ::(bdw l++[(8,[59])])):=by
 have h2:=R9 l;have h3:=c5s l;refine⟨by simp only[SZ,WL]at *;omega,fun n ws hn hw=>?_⟩;simp only[SZ]at hn hw;have R:=fun(ws:List Str) (hw:ws.length+2*l.length<=500000)=>bd_v (n:=n) (x:=⟨16,s,0,zT,[],l,a⟩) (ws:=ws) (by simp only;omega) (by simp only;omega) hw;unfold itP;exact prt
theorem pi_alias:PZ itE ⟨17,s,0,t,[],[],a⟩ ((9,[116,121,112,101]) ::(2,s) ::(8,[61]) ::(W t++[(8,[59])])):=by
 have t0:=a4C t.sz t (Nat.le_refl _);refine⟨by simp only[SZ,WL]at *;omega,fun n ws hn hw=>?_⟩;simp only[SZ]at hn hw;have R:=True.intro;unfold itE;exact prt
theorem pi_fn {w:List WK}(ho:x.op=7)(h:PFn x w):PZ itP x w/\PZ itE x w:=by
 refine⟨⟨h.1,fun n ws hn hw=>?_⟩,⟨h.1,fun n ws hn hw=>?_⟩⟩
 ·unfold itP;rw[ho,a1t (by decide),h.2 n ws hn hw];rfl
 ·unfold itE;rw[ho,a1t (by decide),h.2 n ws hn hw];rfl
theorem l6_v (ho:ops=[13,14,15]∨ops=[17,7]){y:Nod}{r:List Nod}{xi:Int}(hn:5<=n)(hr:r.length<=1000000000):a5Z n ops y n r xi 0=some (r ++(if y.op∈ops then [y]else []),xi):=by
 obtain⟨q,rfl⟩:∃q,n=q+4:=⟨n-4,by omega⟩
 have hw:w64 (0+1)=1/\w64 (1+1)=2/\w64 (2+1)=3:=⟨by decide,by decide,by decide⟩
 have ha:=app144 (l:=r) (m:=[y]) (by omega) (by simp);rcases ho with rfl|rfl
 ·have c:ltB 0 ((([13,14,15]:List Int).length:Nat):Int)=true/\ltB 1 ((([13,14,15]:List Int).length:Nat):Int)=true/\ltB 2 ((([13,14,15]:List Int).length:Nat):Int)=true/\ltB 3 ((([13,14,15]:List Int).length:Nat):Int)=false:=⟨X6 (by decide),X6 (by decide),X6 (by decide),a0C (by decide)⟩
  have i:idx' ([13,14,15]:List Int) 0=some 13/\idx' ([13,14,15]:List Int) 1=some 14/\idx' ([13,14,15]:List Int) 2=some 15:=⟨a0k (l:=[13,14,15]) (i:=0) (by decide),a0k (l:=[13,14,15]) (i:=1) (by decide),a0k (l:=[13,14,15]) (i:=2) (by decide)⟩
  simp only[a5Z.eq_2,c,i,NF,hw,a9m,List.mem_cons,List.not_mem_nil,or_false];by_cases h1:y.op=13
  ·simp only[h1,Int.reduceEq,decide_true,decide_false,NF,ha,true_or,if_true]
  ·by_cases h2:y.op=14
   ·simp only[h2,Int.reduceEq,decide_true,decide_false,NF,ha,true_or,or_true,if_true]
   ·by_cases h3:y.op=15
    ·simp only[h3,Int.reduceEq,decide_true,decide_false,NF,ha,or_true,if_true]
    ·simp only[h1,h2,h3,decide_false,NF,or_self,if_false,List.append_nil]
 ·have c:ltB 0 ((([17,7]:List Int).length:Nat):Int)=true/\ltB 1 ((([17,7]:List Int).length:Nat):Int)=true/\ltB 2 ((([17,7]:List Int).length:Nat):Int)=false:=⟨X6 (by decide),X6 (by decide),a0C (by decide)⟩
  have i:idx' ([17,7]:List Int) 0=some 17/\idx' ([17,7]:List Int) 1=some 7:=⟨a0k (l:=[17,7]) (i:=0) (by decide),a0k (l:=[17,7]) (i:=1) (by decide)⟩
  simp only[a5Z.eq_2,c,i,NF,hw,a9m,List.mem_cons,List.not_mem_nil,or_false];by_cases h1:y.op=17
  ·simp only[h1,Int.reduceEq,decide_true,decide_false,NF,ha,true_or,if_true]
  ·by_cases h2:y.op=7
   ·simp only[h2,Int.reduceEq,decide_true,decide_false,NF,ha,or_true,if_true]
   ·simp only[h1,h2,decide_false,NF,or_self,if_false,List.append_nil]
theorem ofm_l {n:Nat}{x:Nod}{ops:List Int}(ho:ops=[13,14,15]∨ops=[17,7])(hn:5<=n)(hL:x.l.length<=100000000):∀(m i:Nat) (r:List Nod),x.l.length<m+i->i<=x.l.length->r.length<=i->a5Y n x ops m r i=some (r ++(x.l.drop i).filter fun y=>decide (y.op∈ops))
 | 0,_,_,_,_,_=>by omega
 | m+1,i,r,h1,h2,h3=>by
  rw[a5Y.eq_2];rcases Nat.lt_or_ge i x.l.length with h|h
  ·rw[X6 (by omega),a0k h,drop_eq h];simp only[NF,l6_v ho hn (show r.length<=1000000000 by omega),H6 (show i<=1000000000000 by omega),List.filter_cons];by_cases hb:x.l[i].op∈ops
   ·rw[if_pos hb,ofm_l ho hn hL m (i+1) _ (by omega) (by omega) (by simp;omega),if_pos (by simpa using hb)];simp
   ·rw[if_neg hb,ofm_l ho hn hL m (i+1) _ (by omega) (by omega) (by simp;omega),if_neg (by simpa using hb)];simp
  ·rw[a0C (by omega),List.drop_of_length_le h];simp
theorem ofm (ho:ops=[13,14,15]∨ops=[17,7])(hn:x.l.length+5<=n)(hL:x.l.length<=100000000){a b:List Nod}(e:x.l=a++b)(ha:∀y∈a,y.op ∉ ops)(hb:∀y∈b,y.op∈ops):a1J n x ops=some b:=by
 unfold a1J;have h1:=ofm_l (n:=n) (x:=x) ho (by omega) hL n 0 [] (by omega) (Nat.zero_le _) (Nat.le_refl _);simp only[List.drop_zero,List.nil_append,Int.natCast_zero]at h1;rw[h1,e,List.filter_append,List.filter_eq_nil_iff.2 fun y hy=>by simpa using ha y hy,List.filter_eq_self.2 fun y hy=>by simpa using hb y hy];rfl
variable {a k o:Int} {vs:List (List WK)} {ms:List Nod} {s:Str}
def mdw (o:Int):List WK:=cond (decide (o=1∨o=3)) [(9,[109,111,118,101,111,110,108,121])] []++cond (decide (o=2∨o=3)) [(9,[102,114,111,122,101,110])] []
def tyw (k:Int):Str:=cond (decide (k=4)) [99,108,97,115,115] (cond (decide (k=3)) [101,110,117,109] [115,116,114,117,99,116])
theorem tyw_v (hk:k=2∨k=3∨k=4):((mget eqB k (b57 eqB 4 [99,108,97,115,115] (b57 eqB 3 [101,110,117,109] (b57 eqB 2 [115,116,114,117,99,116] [])))).getD []:Str)=tyw k:=by
 rcases hk with rfl|rfl|rfl<;>simp[mget,b57,eqB,tyw]
theorem mod_v {n:Nat}(ho:o=0∨o=1∨o=2∨o=3){ws:List Str}(hw:ws.length<=500000){β:Type}(f:List Str->Option β):(Option.bind (α:=List Str) (cond (!eqB (IntKind.wrap .i64 ((BitVec.ofInt 64 o &&& BitVec.ofInt 64 1).toNat:Nat)) 0) ((j5 ([[109,111,118,101,111,110,108,121]]:List Str) ws).bind fun ws=>some ws) (some ws)) fun ws=>Option.bind (α:=List Str) (cond (!eqB (IntKind.wrap .i64 ((BitVec.ofInt 64 o &&& BitVec.ofInt 64 2).toNat:Nat)) 0) ((j5 ([[102,114,111,122,101,110]]:List Str) ws).bind fun ws=>some ws) (some ws)) f)=f (ws++sp (mdw o)):=by
 obtain⟨⟨b1,b2,b3,b4⟩,b5,b6,b7,b8⟩:=bit_v;rcases ho with rfl|rfl|rfl|rfl
 ·rw[b1,b5];simp[NF,mdw,sp]
 ·rw[b2];simp only[NF,b6,b2T (show ws.length+[[109,111,118,101,111,110,108,121]].length<=1000000 by simp only[List.length_singleton];omega)];rfl
 ·rw[b3];simp only[NF,b7,b2T (show ws.length+[[102,114,111,122,101,110]].length<=1000000 by simp only[List.length_singleton];omega)];rfl
 ·rw[b4];simp only[NF,b8,b2T (show ws.length+[[109,111,118,101,111,110,108,121]].length<=1000000 by simp only[List.length_singleton];omega)];rw[b2T (by simp only[List.length_append,List.length_singleton];omega)];simp[mdw,sp,spl]
theorem pd_type {gs:List Nod}(hk:k=2∨k=3∨k=4)(ho:o=0∨o=1∨o=2∨o=3)(hg:∀y∈gs,y.op=8)(hm:∀y∈ms,y.op∈([13,14,15]:List Int))(h:V3 (PZ J9) ms vs)(hz:szN (gs++ms)<=13000):PZ I5 ⟨k,s,o,zT,[],gs++ms,a⟩ (mdw o ++((9,tyw k) ::(2,s) ::(gnw gs ++((8,[123]) ::(vs.flatten++[(8,[125])]))))):=by
 have e0:=a00 gs;have e1:=a00 ms;simp only[SZ]at hz;have l1:=c5L (gs:=gs) (by omega);have l2:=pz_le h;have l3:(mdw o).length<=2:=by rcases ho with rfl|rfl|rfl|rfl<;>simp[mdw]
 refine⟨by simp only[SZ,WL];omega,fun n ws hn hw=>?_⟩;simp only[SZ]at hn hw;have o1:=ofs (n:=n) (x:=⟨k,s,o,zT,[],gs++ms,a⟩) (o:=8) (by show(gs++ms).length+3<=n;simp only[List.length_append];omega) (by show(gs++ms).length<=_;simp only[List.length_append];omega);have o2:a1J n ⟨k,s,o,zT,[],gs++ms,a⟩ [13,14,15]=some ms:=ofm (.inl rfl) (by show(gs++ms).length+5<=n;simp only[List.length_append];omega) (by show(gs++ms).length<=_;simp only[List.length_append];omega) rfl (fun y hy=>by rw[hg y hy];decide) hm;have fm:ms.filter (fun y=>eqB y.op 8)=[]:=List.filter_eq_nil_iff.2 fun y hy=>by
  have:=hm y hy;rw[a1t (fun e=>by rw[e]at this;revert this;decide)];simp
 simp only[List.filter_append,fop hg,fm,if_true,List.append_nil]at o1;have x1:(⟨k,s,o,zT,[],gs++ms,a⟩:Nod).s=s/\(⟨k,s,o,zT,[],gs++ms,a⟩:Nod).op=k/\(⟨k,s,o,zT,[],gs++ms,a⟩:Nod).n=o:=⟨rfl,rfl,rfl⟩
 generalize (⟨k,s,o,zT,[],gs++ms,a⟩:Nod)=x at o1 o2 x1 ⊢;have R1:=fun(ws:List Str) (hw:ws.length+8*szN gs+4<=500000)=>gn_v (n:=n) (ws:=ws) o1 (by omega) (by omega) hw;have R2:=fun(ws:List Str) (hw:ws.length+10*szN ms<=500000)=>show Y2 n n ms (List.length ms:Int) 0 ws=_ from lfw h (n:=n) (L:=fun m i ws=>Y2 n m ms (List.length ms:Int) i ws) (fun m i ws=>by
  show Y2 n (m+1) ms (List.length ms:Int) i ws=_;rw[Y2.eq_2];cases ltB i (List.length ms:Int)
  ·rfl
  ·simp only[NF]) (by omega) hw
 have hm1:=fun{β:Type} (f:List Str->Option β)=>mod_v (n:=n) ho (show ws.length<=500000 by omega) f;have hb:(cond (eqB k 2) (some (eqB k 2)) (cond (eqB k 3) (some (eqB k 3)) (some (eqB k 4))):Option Bool)=some true:=by rcases hk with rfl|rfl|rfl<;>simp[eqB]
 unfold I5;rw[x1.2.1,x1.2.2,hb,x1.1];simp only[Option.bind_some,cond_true];rw[hm1,tyw_v hk];have R:=And.intro o2 (And.intro R1 R2);exact prt
theorem pd_prot {l:List Nod}(h:V3 (PZ itP) l vs):PZ I5 ⟨5,s,0,zT,[],l,a⟩ ((9,[112,114,111,116,111,99,111,108]) ::(2,s) ::(8,[123]) ::(vs.flatten++[(8,[125])])):=by
 have l2:=pz_le h;refine⟨by simp only[SZ,WL];omega,fun n ws hn hw=>?_⟩;simp only[SZ]at hn hw;have R:=fun(ws:List Str) (hw:ws.length+10*szN l<=500000)=>show a1o n ⟨5,s,0,zT,[],l,a⟩ n 0 ws=_ from lfw h (n:=n) (L:=fun m i ws=>a1o n ⟨5,s,0,zT,[],l,a⟩ m i ws) (fun m i ws=>rfl) (by omega) hw;unfold I5;exact prt
theorem pd_ext {t:Typ}{rs:List Nod}(hr:∀y∈rs,y.op=12)(hm:∀y∈ms,y.op∈([17,7]:List Int))(h:V3 (PZ itE) ms vs)(hz:szN (rs++ms)<=13000):PZ I5 ⟨6,s,0,t,[],rs++ms,a⟩ ((9,[101,120,116,101,110,100]) ::(W t ++((8,[58]) ::(2,s) ::(whw rs ++((8,[123]) ::(vs.flatten++[(8,[125])])))))):=by
 have e0:=a00 rs;have e1:=a00 ms;simp only[SZ]at hz;have l1:=c6G (rs:=rs) (by omega);have l2:=pz_le h;have t0:=a4C t.sz t (Nat.le_refl _);refine⟨by simp only[SZ,WL];omega,fun n ws hn hw=>?_⟩;simp only[SZ]at hn hw;have o1:=ofs (n:=n) (x:=⟨6,s,0,t,[],rs++ms,a⟩) (o:=12) (by show(rs++ms).length+3<=n;simp only[List.length_append];omega) (by show(rs++ms).length<=_;simp only[List.length_append];omega);have o2:a1J n ⟨6,s,0,t,[],rs++ms,a⟩ [17,7]=some ms:=ofm (.inr rfl) (by show(rs++ms).length+5<=n;simp only[List.length_append];omega) (by show(rs++ms).length<=_;simp only[List.length_append];omega) rfl (fun y hy=>by rw[hr y hy];decide) hm;have fm:ms.filter (fun y=>eqB y.op 12)=[]:=List.filter_eq_nil_iff.2 fun y hy=>by
  have:=hm y hy;rw[a1t (fun e=>by rw[e]at this;revert this;decide)];simp
 simp only[List.filter_append,fop hr,fm,if_true,List.append_nil]at o1;have x1:(⟨6,s,0,t,[],rs++ms,a⟩:Nod).s=s/\(⟨6,s,0,t,[],rs++ms,a⟩:Nod).op=6/\(⟨6,s,0,t,[],rs++ms,a⟩:Nod).t=t:=⟨rfl,rfl,rfl⟩
 generalize (⟨6,s,0,t,[],rs++ms,a⟩:Nod)=x at o1 o2 x1 ⊢;have R1:=fun(ws:List Str) (hw:ws.length+10*szN rs+4<=500000)=>wh_v (n:=n) (ws:=ws) o1 (by omega) (by omega) hw;have R2:=fun(ws:List Str) (hw:ws.length+10*szN ms<=500000)=>show a1p n ms n 0 ws=_ from lfw h (n:=n) (L:=fun m i ws=>a1p n ms m i ws) (fun m i ws=>rfl) (by omega) hw;unfold I5;have R:=And.intro x1 (And.intro o2 (And.intro R1 R2));exact prt
theorem pd_fn {x:Nod}{w:List WK}(ho:x.op=7)(h:PFn x w):PZ I5 x w:=by
 refine⟨h.1,fun n ws hn hw=>?_⟩;unfold I5;rw[ho,h.2 n ws hn hw];simp only[a9m,Int.reduceEq,decide_true,decide_false,NF]
variable {k:Nat} {b:Nod}
theorem g7_inv {V:Int->Str->Prop}(h:G V 7 b):∃s a,b =⟨9,s,0,zT,[],[],a⟩:=by
 cases h with
 | bound hs=>exact⟨_,_,rfl⟩
section
variable {V:Int->Str->Prop} {l:List Tok} {size:Int} {n:Nat} {rest:List WK}
theorem bnd_lp (hr:nx rest 8 [38]=false):∀(bs:List Nod) (b:Nod),(∀y∈b::bs,G V 7 y) -> ∀(m:Nat),bs.length<m -> ∀(k:Nat) (acc:List Nod),At l k ((2,b.s) ::(bs.flatMap (fun b=>[((8:Int),([38]:Str)),(2,b.s)])++rest))->acc.length+bs.length<=9000->S1 (RL_ mkR l (acc++b::bs) rest) (a0s n size l m acc k)
 | [],b,hG,m,hm,k,acc,h,ha=>by
  obtain⟨m,rfl⟩:∃q,m=q+1:=⟨m-1,by omega⟩
  obtain⟨s,a,rfl⟩:=g7_inv (hG b (by simp));have h:At l k ((2,s)::rest):=h;have hk:=h.le;rw[a0s.eq_2];exact rdk
 | b2::bs,b,hG,m,hm,k,acc,h,ha=>by
  obtain⟨m,rfl⟩:∃q,m=q+1:=⟨m-1,by omega⟩
  obtain⟨s,a,rfl⟩:=g7_inv (hG b (by simp));have h:At l k ((2,s) ::(8,[38]) ::(2,b2.s) ::(bs.flatMap (fun b=>[((8:Int),([38]:Str)),(2,b.s)])++rest)):=by simpa using h
  have hk:=h.le;have ih:=bnd_lp hr bs b2 (fun y hy=>hG y (by simp only[List.mem_cons]at hy ⊢;exact .inr hy)) m (by simp only[List.length_cons]at hm;omega);rw[a0s.eq_2];exact rdk
theorem b5q {bs:List Nod}(hG:∀y∈bs,G V 7 y)(hz:bs.length<=8000)(hn:100000<=n)(h:At l k (bdw bs++rest))(hr:nx rest 8 [38]=false/\nx rest 8 [58]=false):S1 (RL_ mkR l bs rest) (a0D n l k size):=by
 unfold a0D;have hk:=h.le;obtain⟨hr1,hr2⟩:=hr;cases bs with
 | nil =>
  have h:At l k rest:=h;exact rdk
 | cons b bs =>
  have h:At l k ((8,[58]) ::(2,b.s) ::(bs.flatMap (fun b=>[((8:Int),([38]:Str)),(2,b.s)])++rest)):=h;have ih:=bnd_lp (l:=l) (size:=size) (n:=n) hr1 bs b hG n (by simp only[List.length_cons]at hz;omega);exact rdk
theorem g8_inv (h:G V 8 b):∃s l a,b =⟨8,s,0,zT,[],l,a⟩ /\ ∀y∈l,G V 7 y:=by
 cases h with
 | gen hs hl=>exact⟨_,_,_,rfl,hl⟩
theorem gns_lp (hn:100000<=n):∀(gs:List Nod) (g:Nod),(∀y∈g::gs,G V 8 y/\y.sz<=13000) -> ∀(m:Nat),gs.length<m -> ∀(k:Nat) (acc:List Nod),At l k (gw g ++(cm (gs.map gw) ++((8,[62])::rest)))->acc.length+gs.length<=9000->S1 (RL_ mkB l (acc++g::gs) ((8,[62])::rest)) (Y9 n size l m acc k)
 | [],b,hG,m,hm,k,acc,h,ha=>by
  obtain⟨m,rfl⟩:∃q,m=q+1:=⟨m-1,by omega⟩
  obtain⟨⟨s,bs,a,rfl,hb⟩,hz⟩:=(hG b (by simp)).imp g8_inv id;have h:At l k ((2,s) ::(bdw bs ++((8,[62])::rest))):=h;have hk:=h.le;simp only[SZ]at hz;have hl2:=R9 bs;have ls1:=fun{k:Nat} (h:At l k (bdw bs ++((8,[62])::rest)))=>b5q (size:=size) (n:=n) hb (by omega) hn h ⟨rfl,rfl⟩;rw[Y9.eq_2];exact rdk
 | b2::gs,b,hG,m,hm,k,acc,h,ha=>by
  obtain⟨m,rfl⟩:∃q,m=q+1:=⟨m-1,by omega⟩
  obtain⟨⟨s,bs,a,rfl,hb⟩,hz⟩:=(hG b (by simp)).imp g8_inv id;have h:At l k ((2,s) ::(bdw bs ++((8,[44]) ::(gw b2 ++(cm (gs.map gw) ++((8,[62])::rest)))))):=by
   rw[List.map_cons,a3h]at h;simpa [gw]using h
  have hk:=h.le;simp only[SZ]at hz;have hl2:=R9 bs;have ls1:=fun{k:Nat} (h:At l k (bdw bs ++((8,[44]) ::(gw b2 ++(cm (gs.map gw) ++((8,[62])::rest))))))=>b5q (size:=size) (n:=n) hb (by omega) hn h ⟨rfl,rfl⟩;have ih:=gns_lp hn gs b2 (fun y hy=>hG y (by simp only[List.mem_cons]at hy ⊢;exact .inr hy)) m (by simp only[List.length_cons]at hm;omega);rw[Y9.eq_2];exact rdk
theorem c0V {gs:List Nod}(hG:∀y∈gs,G V 8 y)(hz:szN gs<=13000)(hn:100000<=n)(h:At l k (gnw gs++rest))(hr:nx rest 8 [60]=false):S1 (RL_ mkR l gs rest) (T9 n l k size):=by
 unfold T9;have hk:=h.le;have hl2:=R9 gs;cases gs with
 | nil =>
  have h:At l k rest:=h;exact rdk
 | cons b bs =>
  have h:At l k ((8,[60]) ::(gw b ++(cm (bs.map gw) ++((8,[62])::rest)))):=by
   simpa [gnw,a7V]using h
  simp only[List.length_cons]at hl2;have ls1:=fun{k:Nat} (h:At l k (gw b ++(cm (bs.map gw) ++((8,[62])::rest))))=>gns_lp (size:=size) hn bs b (fun y hy=>⟨hG y hy,by have:=a1Q hy;omega⟩) n (by omega) k [] h (by simp only[List.length_nil];omega);exact rdk
theorem rqs_lp (hn:200000<=n)(hr:nx rest 8 [44]=false)(hr2:NT false rest):∀(rs:List Nod) (b:Nod),(∀y∈b::rs,G V 9 y/\y.sz<=13000) -> ∀(m:Nat),rs.length<m -> ∀(k:Nat) (acc:List Nod),At l k (rqw b ++(cm (rs.map rqw)++rest))->acc.length+rs.length<=9000->S1 (RL_ mkR l (acc++b::rs) rest) (a0N n size l m acc k)
 | [],b,hG,m,hm,k,acc,h,ha=>by
  obtain⟨m,rfl⟩:∃q,m=q+1:=⟨m-1,by omega⟩
  obtain⟨hb,hz⟩:=hG b (by simp);have hk:=h.le;rw[a0N.eq_2];cases hb with
  | @rq1 s t a ht hs =>
   simp only[SZ]at hz;have h:At l k (W t ++((8,[58]) ::(2,s)::rest)):=by simpa [rqw,eqB,cm]using h
   exact rdk
  | @rq2 t u a ht hu =>
   simp only[SZ]at hz;have h:At l k (W t ++((8,[61,61]) ::(W u++rest))):=by simpa [rqw,eqB,cm,WW,jo]using h
   exact rdk
 | b2::rs,b,hG,m,hm,k,acc,h,ha=>by
  obtain⟨m,rfl⟩:∃q,m=q+1:=⟨m-1,by omega⟩
  obtain⟨hb,hz⟩:=hG b (by simp);have hk:=h.le;rw[List.map_cons,a3h]at h;have ih:=rqs_lp hn hr hr2 rs b2 (fun y hy=>hG y (by simp only[List.mem_cons]at hy ⊢;exact .inr hy)) m (by simp only[List.length_cons]at hm;omega);rw[a0N.eq_2];cases hb with
  | @rq1 s t a ht hs =>
   simp only[SZ]at hz;have h:At l k (W t ++((8,[58]) ::(2,s) ::(8,[44]) ::(rqw b2 ++(cm (rs.map rqw)++rest)))):=by simpa [rqw,eqB]using h
   exact rdk
  | @rq2 t u a ht hu =>
   simp only[SZ]at hz;have h:At l k (W t ++((8,[61,61]) ::(W u ++((8,[44]) ::(rqw b2 ++(cm (rs.map rqw)++rest)))))):=by simpa [rqw,eqB,WW,jo]using h
   exact rdk
theorem c2Y {rs:List Nod}(hG:∀y∈rs,G V 9 y)(hz:szN rs<=13000)(hn:200000<=n)(h:At l k (whw rs++rest))(hr:nx rest 8 [44]=false/\NT false rest/\nx rest 9 [119,104,101,114,101]=false):S1 (RL_ mkR l rs rest) (a0T n l k size):=by
 unfold a0T;have hk:=h.le;have hl2:=R9 rs;obtain⟨hr1,hr2,hr3⟩:=hr;cases rs with
 | nil =>
  have h:At l k rest:=h;exact rdk
 | cons b bs =>
  have h:At l k ((9,[119,104,101,114,101]) ::(rqw b ++(cm (bs.map rqw)++rest))):=by
   simpa [whw,a7V]using h
  simp only[List.length_cons]at hl2;have ih:=fun k acc=>rqs_lp (l:=l) (size:=size) hn hr1 hr2 bs b (fun y hy=>⟨hG y hy,by have:=a1Q hy;omega⟩) n (by omega) k acc;exact rdk
end
variable {us vs:List (List WK)} {gs ps rs th:List Nod} {k:Nat} {s:Str} {t:Typ}
section
variable {V:Int->Str->Prop} {l:List Tok} {size:Int} {n:Nat} {rest:List WK}
theorem wh_nx (h:NT false rest/\nx rest 8 [45,62]=false):NT false (whw rs++rest)/\nx (whw rs++rest) 8 [45,62]=false:=by
 cases rs with
 | nil=>exact h
 | cons r rs=>exact⟨⟨rfl,.inl rfl⟩,rfl⟩
theorem rs_nx {w:List WK}(h:nx w 9 [116,104,114,111,119,115]=false):nx (rsw t++w) 9 [116,104,114,111,119,115]=false:=by
 unfold rsw;cases eqB t.kind 4
 ·rfl
 ·exact h
theorem wh_nt (h:nx rest 9 [116,104,114,111,119,115]=false):nx (whw rs++rest) 9 [116,104,114,111,119,115]=false:=by
 cases rs with
 | nil=>exact h
 | cons r rs=>rfl
theorem rd_sig (ht:t=uT∨GT V false t)(hg:∀y∈gs,G V 8 y)(hp:V3 (RM V) ps us)(hth:∀y∈th,G V 10 y)(hl1:th.length<=1)(hrs:∀y∈rs,G V 9 y)(hz:t.sz+szN (gs ++(ps ++(th++rs)))<=13000)(hn:400000<=n){c:UInt8}(hc:c=123∨c=59)(h:At l k (sgw s t gs us th rs ++((8,[c])::rest))):S1 (SG_ l s t (gs ++(ps ++(th++rs))) ((8,[c])::rest)) (U8 n l k size):=by
 simp only[SZ]at hz;have hk:=h.le;have e0:=R9 gs;have e1:=R9 ps;have e2:=R9 th;have e3:=R9 rs;have h:At l k ((9,[102,117,110,99]) ::(1,s) ::(gnw gs ++(cw us ++(thw th ++(rsw t ++(whw rs ++((8,[c])::rest))))))):=by simpa [sgw]using h
 have nr:nx ((8,[c])::rest) 8 [44]=false/\NT false ((8,[c])::rest)/\nx ((8,[c])::rest) 9 [119,104,101,114,101]=false:=by
  rcases hc with rfl|rfl<;>exact⟨rfl,⟨rfl,.inl rfl⟩,rfl⟩
 have nw:=wh_nx (rs:=rs) (rest:=(8,[c])::rest) ⟨nr.2.1,by rcases hc with rfl|rfl<;>rfl⟩;have nt:=rs_nx (t:=t) (wh_nt (rs:=rs) (rest:=(8,[c])::rest) (by rcases hc with rfl|rfl<;>rfl));have ls1:=fun{k:Nat} {r:List WK} (h:At l k (gnw gs ++(cw us++r)))=>c0V (size:=size) (n:=n) hg (by omega) (by omega) h rfl;have ls2:=fun{k:Nat} {r:List WK} (h:At l k (cw us++r))=>show S1 (RL_ mkR l ps r) (X7 n l k size)from by
  obtain⟨ys,e,he,_⟩:=b9D (size:=size) (n:=n) hp (by omega) h.hl h.hk h.K (by omega);exact⟨_,e,ys,_,rfl,he,h.ap⟩
 have ls3:=fun{k:Nat} (h:At l k (whw rs ++((8,[c])::rest)))=>c2Y (size:=size) (n:=n) hrs (by omega) (by omega) h nr;unfold U8;rcases th with _ |⟨x,_ |⟨y,th⟩⟩
 ·have h:At l k ((9,[102,117,110,99]) ::(1,s) ::(gnw gs ++(cw us ++(rsw t ++(whw rs ++((8,[c])::rest)))))):=h;exact rdk
 ·have hx:=hth x (by simp);cases hx with
  | @thr u a hu =>
   simp only[SZ]at hz;have h:At l k ((9,[102,117,110,99]) ::(1,s) ::(gnw gs ++(cw us ++((9,[116,104,114,111,119,115]) ::(8,[40]) ::(W u ++((8,[41]) ::(rsw t ++(whw rs ++((8,[c])::rest))))))))):=by simpa [thw]using h
   exact rdk
 ·simp only[List.length_cons]at hl1;omega
def RFn (x:Nod)(w:List WK):Prop:=(∃u,w =(9,[102,117,110,99])::u) /\ ∀ ⦃l:List Tok⦄ ⦃size:Int⦄ ⦃n k:Nat⦄ ⦃rest:List WK⦄,400000<=n->At l k (w++rest)->S1 (RN_ l x rest) (Z8 n l k size)
theorem rd_fn {b:Nod}{v:List WK}{a:Int}(ht:t=uT∨GT V false t)(hg:∀y∈gs,G V 8 y)(hp:V3 (RM V) ps us)(hth:∀y∈th,G V 10 y)(hl1:th.length<=1)(hrs:∀y∈rs,G V 9 y)(hz:t.sz+szN (gs ++(ps ++(th++rs)))<=13000)(hb:RBl b v):RFn ⟨7,s,1,t,[],gs ++(ps ++(th++rs))++[b],a⟩ (sgw s t gs us th rs++v):=by
 refine⟨⟨_,rfl⟩,fun l size n k rest hn h=>?_⟩;rw[List.append_assoc]at h;have hk:=h.le;have hz2:=hz;have e0:=R9 (gs ++(ps ++(th++rs)));have lg:=fun{k:Nat} (h:At l k (sgw s t gs us th rs ++(v++rest)))=>show S1 (SG_ l s t (gs ++(ps ++(th++rs))) (v++rest)) (U8 n l k size)from by
  obtain⟨r,rfl⟩:=hb.2;exact rd_sig ht hg hp hth hl1 hrs hz hn (rest:=r++rest) (.inl rfl) h
 unfold Z8;exact rdk
def SGR (V:Int->Str->Prop)(x:Nod)(w:List WK):Prop:=∃s t gs ps th rs us a,x =⟨7,s,0,t,[],gs ++(ps ++(th++rs)),a⟩/\w=sgw s t gs us th rs++[(8,[59])]/\(t=uT∨GT V false t)/\(∀y∈gs,G V 8 y)/\V3 (RM V) ps us/\(∀y∈th,G V 10 y)/\th.length<=1/\(∀y∈rs,G V 9 y)/\t.sz+szN (gs ++(ps ++(th++rs)))<=13000
theorem sgs_lp (hn:400000<=n)(hr:nx rest 9 [102,117,110,99]=false){xs:List Nod}(hA:V3 (SGR V) xs vs):∀(m:Nat),xs.length<m -> ∀(k:Nat) (acc:List Nod),At l k (vs.flatten++rest)->acc.length+xs.length<=9000->S1 (RL_ mkC l (acc++xs) rest) (Y0 n size l m k acc):=by
 induction hA with
 | nil =>
  intro m hm k acc h ha;obtain⟨m,rfl⟩:∃q,m=q+1:=⟨m-1,by omega⟩
  have h:At l k rest:=h;have hk:=h.le;rw[Y0.eq_2];exact rdk
 | @cons x w xs vs hx hv ih =>
  intro m hm k acc h ha;obtain⟨m,rfl⟩:∃q,m=q+1:=⟨m-1,by omega⟩
  obtain⟨s,t,gs,ps,th,rs,us,a,rfl,rfl,h1,h2,h3,h4,h5,h6,h7⟩:=hx;have e0:=R9 (gs ++(ps ++(th++rs)));have lg:=fun{k:Nat} (h:At l k ((9,[102,117,110,99]) ::((1,s) ::(gnw gs ++(cw us ++(thw th ++(rsw t++whw rs)))) ++((8,[59]) ::(vs.flatten++rest)))))=>rd_sig (size:=size) h1 h2 h3 h4 h5 h6 h7 hn (rest:=vs.flatten++rest) (.inr rfl) h;have h:At l k ((9,[102,117,110,99]) ::((1,s) ::(gnw gs ++(cw us ++(thw th ++(rsw t++whw rs)))) ++((8,[59]) ::(vs.flatten++rest)))):=by
   rw[List.flatten_cons]at h;simpa [sgw]using h
  have hk:=h.le;have ih:=ih m (by simp only[List.length_cons]at hm;omega);rw[Y0.eq_2];exact rdk
def a8K (x:Nod):List WK:=(9,cond (decide (x.n=1)) [118,97,114] [108,101,116]) ::(1,x.s) ::(8,[58]) ::(W x.t++[(8,[59])])
theorem c5F (hn:400000<=n)(hr:nx rest 9 [108,101,116]=false)(hr2:nx rest 9 [118,97,114]=false):∀(xs:List Nod),(∀y∈xs,G V 13 y/\y.sz<=13000) -> ∀(m:Nat),xs.length<m -> ∀(k:Nat) (acc:List Nod),At l k ((xs.map a8K).flatten++rest)->acc.length+xs.length<=9000->S1 (RL_ mkB l (acc++xs) rest) (a0v n size l m acc k)
 | [],hG,m,hm,k,acc,h,ha=>by
  obtain⟨m,rfl⟩:∃q,m=q+1:=⟨m-1,by omega⟩
  have h:At l k rest:=h;have hk:=h.le;rw[a0v.eq_2];exact rdk
 | x::xs,hG,m,hm,k,acc,h,ha=>by
  obtain⟨m,rfl⟩:∃q,m=q+1:=⟨m-1,by omega⟩
  obtain⟨hb,hz⟩:=hG x (by simp);have hk:=h.le;have ih:=c5F hn hr hr2 xs (fun y hy=>hG y (by simp[hy])) m (by simp only[List.length_cons]at hm;omega);rw[List.map_cons,List.flatten_cons]at h;rw[a0v.eq_2];cases hb with
  | @fld s o t a hs ho ht =>
   simp only[SZ]at hz;rcases ho with rfl|rfl
   ·have h:At l k ((9,[108,101,116]) ::(1,s) ::(8,[58]) ::(W t ++((8,[59]) ::((xs.map a8K).flatten++rest)))):=by simpa [a8K]using h
    have h1:=h.up;exact rdk
   ·have h:At l k ((9,[118,97,114]) ::(1,s) ::(8,[58]) ::(W t ++((8,[59]) ::((xs.map a8K).flatten++rest)))):=by simpa [a8K]using h
    exact rdk
theorem c7x {fs ds:List Nod}(hf:∀y∈fs,G V 13 y)(hd:V3 (fun d w=>∃b v a,d =⟨15,[],0,zT,[],[b],a⟩/\w =(9,[100,101,105,110,105,116])::v/\RBl b v) ds vs)(hl:ds.length<=1)(hz:szN fs<=13000)(hn:400000<=n)(h:At l k ((8,[123]) ::((fs.map a8K).flatten ++(vs.flatten ++((8,[125])::rest))))):S1 (RL_ mkR l (fs++ds) rest) (a0F n l k size):=by
 have hk:=h.le;have e0:=R9 fs;have nn:nx (vs.flatten ++((8,[125])::rest)) 9 [108,101,116]=false/\nx (vs.flatten ++((8,[125])::rest)) 9 [118,97,114]=false:=by
  cases hd with
  | nil=>exact⟨rfl,rfl⟩
  | cons hx _=>obtain⟨b,v,a,_,rfl,_⟩:=hx;exact⟨rfl,rfl⟩
 have ls1:=fun{k:Nat} (h:At l k ((fs.map a8K).flatten ++(vs.flatten ++((8,[125])::rest))))=>c5F (size:=size) hn nn.1 nn.2 fs (fun y hy=>⟨hf y hy,by have:=a1Q hy;omega⟩) n (by omega) k [] h (by simp only[List.length_nil];omega);unfold a0F;cases hd with
 | nil =>
  have ls1:=fun{k:Nat} (h:At l k ((fs.map a8K).flatten ++((8,[125])::rest)))=>show S1 (RL_ mkB l fs ((8,[125])::rest)) _ from ls1 h;have h:At l k ((8,[123]) ::((fs.map a8K).flatten ++((8,[125])::rest))):=h;exact rdk
 | @cons d w ds vs hx h2 =>
  cases h2 with
  | cons _ _=>simp only[List.length_cons]at hl;omega
  | nil =>
   obtain⟨b,v,a,rfl,rfl,hb⟩:=hx;have e:[(9,[100,101,105,110,105,116])::v].flatten ++((8,[125])::rest) =(9,[100,101,105,110,105,116]) ::(v ++((8,[125])::rest)):=by simp
   rw[e]at ls1 h;have ls1:=fun{k:Nat} (h:At l k ((fs.map a8K).flatten ++((9,[100,101,105,110,105,116]) ::(v ++((8,[125])::rest)))))=>show S1 (RL_ mkB l fs ((9,[100,101,105,110,105,116]) ::(v ++((8,[125])::rest)))) _ from ls1 h;exact rdk
end
variable {a:Int} {vs:List (List WK)} {us:List Nod} {s:Str}
section
variable {V:Int->Str->Prop} {l:List Tok} {size:Int} {n:Nat} {rest:List WK}
def a9f (x:Nod):List WK:=cond (decide (x.n=1)) [(9,[105,110,100,105,114,101,99,116])] [] ++((9,[99,97,115,101]) ::(1,x.s) ::(csw x.ts++[(8,[59])]))
theorem cty_lp {xs:List Nod}{c:Int}(hn:400000<=n):∀(ts:List Typ),(∀t∈ts,GT V false t/\t.sz<=13000) -> ∀(m:Nat),ts.length<m -> ∀(k:Nat) (acc:List Typ),At l k (cm (WW ts) ++((8,[41])::rest))->acc.length+ts.length<=20000->S1 (TY_ l xs c (acc++ts) ((8,[41])::rest)) (a0t n size l m xs k c acc)
 | [],hG,m,hm,k,acc,h,ha=>by
  obtain⟨m,rfl⟩:∃q,m=q+1:=⟨m-1,by omega⟩
  have h:At l k ((8,[41])::rest):=h;have hk:=h.le;rw[a0t.eq_2,List.append_nil];exact rdk
 | t::ts,hG,m,hm,k,acc,h,ha=>by
  obtain⟨m,rfl⟩:∃q,m=q+1:=⟨m-1,by omega⟩
  obtain⟨hb,hz⟩:=hG t (by simp);have h:At l k ((8,[44]) ::(W t ++(cm (WW ts) ++((8,[41])::rest)))):=by
   rw[WW,a3h]at h;simpa using h
  have hk:=h.le;have ih:=fun{k:Nat} (h:At l k (cm (WW ts) ++((8,[41])::rest)))=>cty_lp (xs:=xs) (c:=c) hn ts (fun y hy=>hG y (by simp[hy])) m (by simp only[List.length_cons]at hm;omega) k (acc++[t]) h (by exact lnn);rw[List.append_assoc]at ih;rw[a0t.eq_2];refine c47 h.hl h.hk (w_T h fun _ _=>?_);simp only[NF];refine r_typ (by assumption) hb (by omega) (by omega) ⟨a8O rfl rfl,.inl (a8O rfl rfl)⟩ fun _ _ _=>?_;refine t_app (by exact lnn) (by exact lnn) (by decide) ?_;exact ih (by assumption)
theorem c5v (hn:400000<=n):∀(xs:List Nod),(∀y∈xs,G V 15 y/\y.sz<=13000) -> ∀(m:Nat),xs.length<m -> ∀(k:Nat) (acc:List Nod),At l k ((xs.map a9f).flatten ++((8,[125])::rest))->acc.length+xs.length<=9000->S1 (RL_ mkB l (acc++xs) rest) (a0J n size l m acc k)
 | [],hG,m,hm,k,acc,h,ha=>by
  obtain⟨m,rfl⟩:∃q,m=q+1:=⟨m-1,by omega⟩
  have h:At l k ((8,[125])::rest):=h;have hk:=h.le;rw[a0J.eq_2];exact rdk
 | x::xs,hG,m,hm,k,acc,h,ha=>by
  obtain⟨m,rfl⟩:∃q,m=q+1:=⟨m-1,by omega⟩
  obtain⟨hb,hz⟩:=hG x (by simp);have hk:=h.le;have ih:=c5v hn xs (fun y hy=>hG y (by simp[hy])) m (by simp only[List.length_cons]at hm;omega);rw[List.map_cons,List.flatten_cons]at h;rw[a0J.eq_2];cases hb with
  | @case s o ts a hs ho ht =>
   simp only[SZ]at hz;cases ts with
   | nil =>
    rcases ho with rfl|rfl
    ·have h:At l k ((9,[99,97,115,101]) ::(1,s) ::(8,[59]) ::((xs.map a9f).flatten ++((8,[125])::rest))):=by simpa [a9f,csw]using h
     exact rdk
    ·have h:At l k ((9,[105,110,100,105,114,101,99,116]) ::(9,[99,97,115,101]) ::(1,s) ::(8,[59]) ::((xs.map a9f).flatten ++((8,[125])::rest))):=by simpa [a9f,csw]using h
     exact rdk
   | cons t ts =>
    have e1:=a5H ts;simp only[szT]at hz;have h1:GT V false t:=ht t (by simp);have nt:NT false (cm (WW ts) ++((8,[41]) ::(8,[59]) ::((xs.map a9f).flatten ++((8,[125])::rest)))):=⟨a8O rfl rfl,.inl (a8O rfl rfl)⟩
    have lq:=fun{k:Nat} {c:Int} (h:At l k (cm (WW ts) ++((8,[41]) ::(8,[59]) ::((xs.map a9f).flatten ++((8,[125])::rest)))))=>cty_lp (size:=size) (xs:=acc) (c:=c) hn ts (fun y hy=>⟨ht y (by simp[hy]),by have:=a3w hy;omega⟩) n (by omega) k [t] h (by exact lnn);rcases ho with rfl|rfl
    ·have h:At l k ((9,[99,97,115,101]) ::(1,s) ::(8,[40]) ::(W t ++(cm (WW ts) ++((8,[41]) ::(8,[59]) ::((xs.map a9f).flatten ++((8,[125])::rest)))))):=by simpa [a9f,csw,WW,a7V]using h
     exact rdk
    ·have h:At l k ((9,[105,110,100,105,114,101,99,116]) ::(9,[99,97,115,101]) ::(1,s) ::(8,[40]) ::(W t ++(cm (WW ts) ++((8,[41]) ::(8,[59]) ::((xs.map a9f).flatten ++((8,[125])::rest)))))):=by simpa [a9f,csw,WW,a7V]using h
     exact rdk
theorem rd_cases {cs:List Nod}(hc:∀y∈cs,G V 15 y)(hz:szN cs<=13000)(hn:400000<=n){k:Nat}(h:At l k ((8,[123]) ::((cs.map a9f).flatten ++((8,[125])::rest)))):S1 (RL_ mkR l cs rest) (a1s n l k size):=by
 have hk:=h.le;have e0:=R9 cs;have ls1:=fun{k:Nat} (h:At l k ((cs.map a9f).flatten ++((8,[125])::rest)))=>c5v (size:=size) hn cs (fun y hy=>⟨hc y hy,by have:=a1Q hy;omega⟩) n (by omega) k [] h (by simp only[List.length_nil];omega);unfold a1s;exact rdk
def b6J (x:Nod):List WK:=(9,[116,121,112,101]) ::(2,x.s) ::(bdw x.l++[(8,[59])])
theorem c5q (hn:400000<=n)(hr:nx rest 9 [116,121,112,101]=false):∀(xs:List Nod),(∀y∈xs,G V 16 y/\y.sz<=13000) -> ∀(m:Nat),xs.length<m -> ∀(k:Nat) (acc:List Nod),At l k ((xs.map b6J).flatten++rest)->acc.length+xs.length<=9000->S1 (RL_ mkC l (acc++xs) rest) (Z4 n size l m k acc)
 | [],hG,m,hm,k,acc,h,ha=>by
  obtain⟨m,rfl⟩:∃q,m=q+1:=⟨m-1,by omega⟩
  have h:At l k rest:=h;have hk:=h.le;rw[Z4.eq_2];exact rdk
 | x::xs,hG,m,hm,k,acc,h,ha=>by
  obtain⟨m,rfl⟩:∃q,m=q+1:=⟨m-1,by omega⟩
  obtain⟨hb,hz⟩:=hG x (by simp);have hk:=h.le;have ih:=c5q hn hr xs (fun y hy=>hG y (by simp[hy])) m (by simp only[List.length_cons]at hm;omega);rw[List.map_cons,List.flatten_cons]at h;rw[Z4.eq_2];cases hb with
  | @assoc s bs a hs hbs =>
   simp only[SZ]at hz;have hl2:=R9 bs;have ls1:=fun{k:Nat} (h:At l k (bdw bs ++((8,[59]) ::((xs.map b6J).flatten++rest))))=>b5q (size:=size) (n:=n) hbs (by omega) (by omega) h ⟨rfl,rfl⟩;have h:At l k ((9,[116,121,112,101]) ::(2,s) ::(bdw bs ++((8,[59]) ::((xs.map b6J).flatten++rest)))):=by simpa [b6J]using h
   have h1:=h.up;exact rdk
def alw (x:Nod):List WK:=(9,[116,121,112,101]) ::(2,x.s) ::(8,[61]) ::(W x.t++[(8,[59])])
theorem als_lp (hn:400000<=n)(hr:nx rest 9 [116,121,112,101]=false):∀(xs:List Nod),(∀y∈xs,G V 17 y/\y.sz<=13000) -> ∀(m:Nat),xs.length<m -> ∀(k:Nat) (acc:List Nod),At l k ((xs.map alw).flatten++rest)->acc.length+xs.length<=9000->S1 (RL_ mkC l (acc++xs) rest) (a0u n size l m k acc)
 | [],hG,m,hm,k,acc,h,ha=>by
  obtain⟨m,rfl⟩:∃q,m=q+1:=⟨m-1,by omega⟩
  have h:At l k rest:=h;have hk:=h.le;rw[a0u.eq_2];exact rdk
 | x::xs,hG,m,hm,k,acc,h,ha=>by
  obtain⟨m,rfl⟩:∃q,m=q+1:=⟨m-1,by omega⟩
  obtain⟨hb,hz⟩:=hG x (by simp);have hk:=h.le;have ih:=als_lp hn hr xs (fun y hy=>hG y (by simp[hy])) m (by simp only[List.length_cons]at hm;omega);rw[List.map_cons,List.flatten_cons]at h;rw[a0u.eq_2];cases hb with
  | @alias s t a hs ht =>
   simp only[SZ]at hz;have h:At l k ((9,[116,121,112,101]) ::(2,s) ::(8,[61]) ::(W t ++((8,[59]) ::((xs.map alw).flatten++rest)))):=by simpa [alw]using h
   have h1:=h.up;exact rdk
theorem fns_lp (hn:400000<=n)(hr:nx rest 9 [102,117,110,99]=false){xs:List Nod}(hA:V3 RFn xs vs):∀(m:Nat),xs.length<m -> ∀(k:Nat) (acc:List Nod),At l k (vs.flatten++rest)->acc.length+xs.length<=9000->S1 (RL_ mkC l (acc++xs) rest) (a0f n size l m k acc):=by
 induction hA with
 | nil =>
  intro m hm k acc h ha;obtain⟨m,rfl⟩:∃q,m=q+1:=⟨m-1,by omega⟩
  have h:At l k rest:=h;have hk:=h.le;rw[a0f.eq_2];exact rdk
 | @cons x w xs vs hx hv ih =>
  intro m hm k acc h ha;obtain⟨m,rfl⟩:∃q,m=q+1:=⟨m-1,by omega⟩
  obtain⟨⟨u,rfl⟩,hx⟩:=hx;rw[List.flatten_cons,List.append_assoc]at h;have lt1:=fun{k:Nat} (h:At l k ((9,[102,117,110,99]) ::(u ++(vs.flatten++rest))))=>hx (size:=size) hn (rest:=vs.flatten++rest) h;have h:At l k ((9,[102,117,110,99]) ::(u ++(vs.flatten++rest))):=h;have hk:=h.le;have ih:=ih m (by simp only[List.length_cons]at hm;omega);rw[a0f.eq_2];exact rdk
def RD (x:Nod)(w:List WK):Prop:=∀ ⦃l:List Tok⦄ ⦃size:Int⦄ ⦃n k:Nat⦄ ⦃rest:List WK⦄,400000<=n->At l k (w++rest)->S1 (RN_ l x rest) (M8 n l k size)
theorem rd_dfn {x:Nod}{w:List WK}(h:RFn x w):RD x w:=by
 intro l size n k rest hn h1;obtain⟨⟨u,rfl⟩,hx⟩:=h;have h:At l k ((9,[102,117,110,99]) ::(u++rest)):=h1;have lt1:=fun{k:Nat} (h:At l k ((9,[102,117,110,99]) ::(u++rest)))=>hx (size:=size) hn (rest:=rest) h;have hk:=h.le;unfold M8;exact rdk
theorem rd_prot {ss:List Nod}(hu:∀y∈us,G V 16 y)(hs:V3 (SGR V) ss vs)(hz:szN (us++ss)<=13000):RD ⟨5,s,0,zT,[],us++ss,a⟩ ((9,[112,114,111,116,111,99,111,108]) ::(2,s) ::(8,[123]) ::((us.map b6J).flatten ++(vs.flatten++[(8,[125])]))):=by
 intro l size n k rest hn h;simp only[SZ]at hz;have e0:=R9 us;have e1:=R9 ss;have h:At l k ((9,[112,114,111,116,111,99,111,108]) ::(2,s) ::(8,[123]) ::((us.map b6J).flatten ++(vs.flatten ++((8,[125])::rest)))):=by simpa using h
 have hk:=h.le;have nn:nx (vs.flatten ++((8,[125])::rest)) 9 [116,121,112,101]=false:=by
  cases hs with
  | nil=>rfl
  | cons hx _=>obtain⟨s,t,gs,ps,th,rs,us,a,_,rfl,_⟩:=hx;rfl
 have ls1:=fun{k:Nat} (h:At l k ((us.map b6J).flatten ++(vs.flatten ++((8,[125])::rest))))=>c5q (size:=size) hn nn us (fun y hy=>⟨hu y hy,by have:=a1Q hy;omega⟩) n (by omega) k [] h (by simp only[List.length_nil];omega);have ls2:=fun k acc h hm=>sgs_lp (l:=l) (size:=size) hn (rest:=(8,[125])::rest) rfl hs n (by omega) k acc h hm;have lt1:=fun{k:Nat} (h:At l k ((9,[112,114,111,116,111,99,111,108]) ::(2,s) ::(8,[123]) ::((us.map b6J).flatten ++(vs.flatten ++((8,[125])::rest)))))=>show S1 (RN_ l ⟨5,s,0,zT,[],us++ss,a⟩ rest) (a0M n l k size)from by
  have hk:=h.le;unfold a0M;exact rdk
 unfold M8;exact rdk
theorem rd_ext {t:Typ}{rs fs:List Nod}(ht:GT V false t)(hr:∀y∈rs,G V 9 y)(hu:∀y∈us,G V 17 y)(hf:V3 RFn fs vs)(hz:t.sz+szN (rs ++(us++fs))<=13000):RD ⟨6,s,0,t,[],rs ++(us++fs),a⟩ ((9,[101,120,116,101,110,100]) ::(W t ++((8,[58]) ::(2,s) ::(whw rs ++((8,[123]) ::((us.map alw).flatten ++(vs.flatten++[(8,[125])]))))))):=by
 intro l size n k rest hn h;simp only[SZ]at hz;have e0:=R9 us;have e1:=R9 fs;have e2:=R9 rs;have h:At l k ((9,[101,120,116,101,110,100]) ::(W t ++((8,[58]) ::(2,s) ::(whw rs ++((8,[123]) ::((us.map alw).flatten ++(vs.flatten ++((8,[125])::rest)))))))):=by simpa using h
 have hk:=h.le;have nn:nx (vs.flatten ++((8,[125])::rest)) 9 [116,121,112,101]=false:=by
  cases hf with
  | nil=>rfl
  | cons hx _=>obtain⟨⟨u,rfl⟩,_⟩:=hx;rfl
 have lt1:=fun{k:Nat} (h:At l k ((9,[101,120,116,101,110,100]) ::(W t ++((8,[58]) ::(2,s) ::(whw rs ++((8,[123]) ::((us.map alw).flatten ++(vs.flatten ++((8,[125])::rest)))))))))=>show S1 (RN_ l ⟨6,s,0,t,[],rs ++(us++fs),a⟩ rest) (a08 n l k size)from by
  have hk:=h.le;have ls1:=fun{k:Nat} (h:At l k (whw rs ++((8,[123]) ::((us.map alw).flatten ++(vs.flatten ++((8,[125])::rest))))))=>c2Y (size:=size) (n:=n) hr (by omega) (by omega) h ⟨rfl,⟨rfl,.inl rfl⟩,rfl⟩;have ls2:=fun k acc h hm=>als_lp (l:=l) (size:=size) hn nn us (fun y hy=>⟨hu y hy,by have:=a1Q hy;omega⟩) n (by omega) k acc h hm;have ls3:=fun k acc h hm=>fns_lp (l:=l) (size:=size) hn (rest:=(8,[125])::rest) rfl hf n (by omega) k acc h hm;unfold a08;exact rdk
 unfold M8;exact rdk
end
variable {a o:Int} {gs:List Nod} {s:Str}
section
variable {V:Int->Str->Prop} {l:List Tok} {size:Int} {n:Nat} {rest:List WK}
def DeiW (d:Nod)(w:List WK):Prop:=∃b v a,d =⟨15,[],0,zT,[],[b],a⟩/\w =(9,[100,101,105,110,105,116])::v/\RBl b v
theorem c6p {u:Int}{fs ds:List Nod}{vs:List (List WK)}(hk:u=4/\o=0∨u=2/\(o=0∨o=1∨o=2∨o=3))(hg:∀y∈gs,G V 8 y)(hf:∀y∈fs,G V 13 y)(hd:V3 DeiW ds vs)(hl:ds.length<=1)(hz:szN (gs ++(fs++ds))<=13000):RD ⟨u,s,o,zT,[],gs ++(fs++ds),a⟩ (mdw o ++((9,tyw u) ::(2,s) ::(gnw gs ++((8,[123]) ::((fs.map a8K).flatten ++(vs.flatten++[(8,[125])])))))):=by
 intro l size n k rest hn h;simp only[SZ]at hz;have e0:=R9 gs;have e1:=R9 fs;have ls1:=fun{k:Nat} (h:At l k (gnw gs ++((8,[123]) ::((fs.map a8K).flatten ++(vs.flatten ++((8,[125])::rest))))))=>c0V (size:=size) (n:=n) hg (by omega) (by omega) h rfl;have ls2:=fun{k:Nat} (h:At l k ((8,[123]) ::((fs.map a8K).flatten ++(vs.flatten ++((8,[125])::rest)))))=>c7x (size:=size) (n:=n) hf hd hl (by omega) hn h;have e:∀w:List WK,w ++((9,tyw u) ::(2,s) ::(gnw gs ++((8,[123]) ::((fs.map a8K).flatten ++(vs.flatten++[(8,[125])])))))++rest=w ++((9,tyw u) ::(2,s) ::(gnw gs ++((8,[123]) ::((fs.map a8K).flatten ++(vs.flatten ++((8,[125])::rest)))))):=fun w=>by simp
 rw[e]at h;have hk0:=h.le;unfold M8;rcases hk with⟨rfl,rfl⟩ |⟨rfl,rfl|rfl|rfl|rfl⟩
 ·have h:At l _ ((9,[99,108,97,115,115]) ::(2,s) ::(gnw gs ++((8,[123]) ::((fs.map a8K).flatten ++(vs.flatten ++((8,[125])::rest)))))):=h;exact rdk
 ·have h:At l _ ((9,[115,116,114,117,99,116]) ::(2,s) ::(gnw gs ++((8,[123]) ::((fs.map a8K).flatten ++(vs.flatten ++((8,[125])::rest)))))):=h;exact rdk
 ·have h:At l _ ((9,[109,111,118,101,111,110,108,121]) ::(9,[115,116,114,117,99,116]) ::(2,s) ::(gnw gs ++((8,[123]) ::((fs.map a8K).flatten ++(vs.flatten ++((8,[125])::rest)))))):=h;exact rdk
 ·have h:At l _ ((9,[102,114,111,122,101,110]) ::(9,[115,116,114,117,99,116]) ::(2,s) ::(gnw gs ++((8,[123]) ::((fs.map a8K).flatten ++(vs.flatten ++((8,[125])::rest)))))):=h;exact rdk
 ·have h:At l _ ((9,[109,111,118,101,111,110,108,121]) ::(9,[102,114,111,122,101,110]) ::(9,[115,116,114,117,99,116]) ::(2,s) ::(gnw gs ++((8,[123]) ::((fs.map a8K).flatten ++(vs.flatten ++((8,[125])::rest)))))):=h;exact rdk
theorem rd_enum {cs:List Nod}(ho:o=0∨o=2)(hg:∀y∈gs,G V 8 y)(hc:∀y∈cs,G V 15 y)(hz:szN (gs++cs)<=13000):RD ⟨3,s,o,zT,[],gs++cs,a⟩ (mdw o ++((9,tyw 3) ::(2,s) ::(gnw gs ++((8,[123]) ::((cs.map a9f).flatten++[(8,[125])]))))):=by
 intro l size n k rest hn h;simp only[SZ]at hz;have e0:=R9 gs;have e1:=R9 cs;have ls1:=fun{k:Nat} (h:At l k (gnw gs ++((8,[123]) ::((cs.map a9f).flatten ++((8,[125])::rest)))))=>c0V (size:=size) (n:=n) hg (by omega) (by omega) h rfl;have ls2:=fun{k:Nat} (h:At l k ((8,[123]) ::((cs.map a9f).flatten ++((8,[125])::rest))))=>rd_cases (size:=size) (n:=n) hc (by omega) hn h;have e:∀w:List WK,w ++((9,tyw 3) ::(2,s) ::(gnw gs ++((8,[123]) ::((cs.map a9f).flatten++[(8,[125])]))))++rest=w ++((9,tyw 3) ::(2,s) ::(gnw gs ++((8,[123]) ::((cs.map a9f).flatten ++((8,[125])::rest))))):=fun w=>by simp
 rw[e]at h;have hk0:=h.le;unfold M8;rcases ho with rfl|rfl
 ·have h:At l _ ((9,[101,110,117,109]) ::(2,s) ::(gnw gs ++((8,[123]) ::((cs.map a9f).flatten ++((8,[125])::rest))))):=h;exact rdk
 ·have h:At l _ ((9,[102,114,111,122,101,110]) ::(9,[101,110,117,109]) ::(2,s) ::(gnw gs ++((8,[123]) ::((cs.map a9f).flatten ++((8,[125])::rest))))):=h;exact rdk
end
variable {l l':List Nod} {c:Nat} {x y:Nod}
theorem c0B {f:Nod->List WK}(hf:∀{x y:Nod},y.er=x.er->f y=f x):∀{l l':List Nod},ers l'=ers l->l'.map f=l.map f
 | [],l',h=>by cases a2f h;rfl
 | x::r,l',h=>by
  obtain⟨x',r',rfl,h1,h2⟩:=a6r h;rw[List.map_cons,List.map_cons,hf h1,c0B hf h2]
theorem a9B (h:ers l'=ers l):szN l'=szN l:=by rw[<-c05 l',h,c05]
theorem bdw_er (h:ers l'=ers l):bdw l'=bdw l:=by
 cases l with
 | nil=>cases a2f h;rfl
 | cons x r =>
  obtain⟨x',r',rfl,h1,h2⟩:=a6r h;have:=c0B (f:=fun b=>[(8,[38]),(2,b.s)]) (fun{x y} h=>by rw[er_s h]) h2;simp only[bdw,List.flatMap_def,er_s h1];rw[this]
theorem gw_er (h:y.er=x.er):gw y=gw x:=by unfold gw;rw[er_s h,bdw_er (a4D h).2.2.2.2.2]
theorem c4c (h:ers l'=ers l):gnw l'=gnw l:=by
 have hm:=c0B gw_er h;cases l with
 | nil=>cases a2f h;rfl
 | cons x r =>
  obtain⟨x',r',rfl,h1,h2⟩:=a6r h;simp only[gnw,hm]
theorem rqw_er (h:y.er=x.er):rqw y=rqw x:=by
 obtain⟨h1,h2,h3,h4,h5,h6⟩:=a4D h;unfold rqw;rw[h2,h3,h4,h5]
theorem c5g (h:ers l'=ers l):whw l'=whw l:=by
 have hm:=c0B rqw_er h;cases l with
 | nil=>cases a2f h;rfl
 | cons x r =>
  obtain⟨x',r',rfl,h1,h2⟩:=a6r h;simp only[whw,hm]
theorem thw_er (h:ers l'=ers l):thw l'=thw l:=by
 cases l with
 | nil=>cases a2f h;rfl
 | cons x r =>
  obtain⟨x',r',rfl,h1,h2⟩:=a6r h;simp only[thw,(a4D h1).2.2.2.1]
section
variable {V:Int->Str->Prop}
theorem bal_bd (h:∀y∈l,G V 7 y):Bal V (bdw l):=by
 have hv:∀y∈l,V 2 y.s:=fun y hy=>by
  cases h y hy with
  | bound hs=>exact hs
 have key:∀r:List Nod,(∀y∈r,V 2 y.s)->Bal V (r.flatMap fun b=>[((8:Int),([38]:Str)),(2,b.s)]):=fun r=>by
  induction r with
  | nil=>exact fun _=>.nil
  | cons y r ih=>exact fun hv=>.s (by decide) (.v (.inr (.inl rfl)) (hv y (by simp)) (ih fun z hz=>hv z (by simp[hz])))
 cases l with
 | nil=>exact .nil
 | cons x r=>exact .s (by decide) (.v (.inr (.inl rfl)) (hv x (by simp)) (key r fun y hy=>hv y (by simp[hy])))
theorem bal_mp {f:Nod->List WK}(h:∀y∈l,Bal V (f y)):∀w∈l.map f,Bal V w:=fun w hw=>by
 obtain⟨x,hx,rfl⟩:=List.mem_map.1 hw;exact h x hx
theorem bal_gn (h:∀y∈l,G V 8 y):Bal V (gnw l):=by
 cases l with
 | nil=>exact .nil
 | cons x r =>
  refine .s (by decide) ((b3X (bal_mp fun y hy=>?_)).app (.s (by decide) .nil));cases h y hy with
  | gen hs hl=>exact .v (.inr (.inl rfl)) hs (bal_bd hl)
theorem bal_wh (h:∀y∈l,G V 9 y):Bal V (whw l):=by
 cases l with
 | nil=>exact .nil
 | cons x r =>
  refine .k (by decide) (b3X (bal_mp fun y hy=>?_));cases h y hy with
  | rq1 ht hs =>
   simp only[rqw,a9m,Int.reduceEq,decide_false,cond_false];exact(a7S ht).app (.s (by decide) (.v (.inr (.inl rfl)) hs .nil))
  | rq2 ht hu =>
   simp only[rqw,a9m,decide_true,cond_true];refine(a7S ht).app (.s (by decide) ?_);simp only[WW,jo];exact a7S hu
theorem bal_th (h:∀y∈l,G V 10 y):Bal V (thw l):=by
 cases l with
 | nil=>exact .nil
 | cons x r =>
  cases h x (by simp)with
  | thr ht=>exact .k (by decide) (.p1 (a7S ht))
theorem bal_sg {s:Str}{t:Typ}{gs th rs:List Nod}{us:List (List WK)}(hs:V 1 s)(ht:t=uT∨GT V false t)(hg:∀y∈gs,G V 8 y)(hu:∀w∈us,Bal V w)(hth:∀y∈th,G V 10 y)(hr:∀y∈rs,G V 9 y):Bal V (sgw s t gs us th rs) :=
 .k (by decide) (.v (.inl rfl) hs ((bal_gn hg).app ((b2g hu).app ((bal_th hth).app ((bal_rs ht).app (bal_wh hr))))))
structure FR (V:Int->Str->Prop)(x:Nod)(w:List WK):Prop where
 p:PE PFn x w
 r:RFn x w
 b:Bal V w
 o:x.op=7
 e:∃u,w=u++[(8,[125])]
structure HR (V:Int->Str->Prop)(x:Nod)(w:List WK):Prop where
 p:PE PFn x w
 r:SGR V x w
 b:Bal V w
 o:x.op=7
def opG (c:Nat):Int:=match c with
 | 4=>10
 | 8=>8
 | 9=>12
 | 10=>11
 | 11=>7
 | 12=>7
 | 13=>13
 | 14=>15
 | 15=>14
 | 16=>16
 | 17=>17
 | _=>0
theorem g_op (h:G V c x):opG c=0∨x.op=opG c:=by
 cases h<;>first|exact .inr rfl|exact .inl rfl
theorem a7w (hc:opG c≠0)(h:∀y∈l,G V c y):∀y∈l,y.op=opG c:=fun y hy=>(g_op (h y hy)).resolve_left hc
theorem fr_of (vo:VO V)(h:G V 11 x)(hz:x.sz<=12000):∃w,FR V x w:=by
 cases h with
 | @fn s t gs ps th rs xs b a hs ht hx hg hp hth hl hr hb =>
  subst hx;simp only[SZ]at hz;obtain⟨us,hps⟩:=a7C (R:=MR V) (l:=ps) (N:=12000) (fun y hy h=>gx_x vo (hp y hy) h) (by omega);obtain⟨v,hbr⟩:∃v,BR V b v:=gx_x vo hb (by omega);have hpo:=a7w (c:=4) (by decide) hp;refine⟨sgw s t gs us th rs++v,fun y hy=>?_,rd_fn ht hg (hps.imp fun _ _ _ h=>h.r) hth hl hr (by simp only[SZ];omega) hbr.r,(bal_sg hs ht hg (a5o hps fun _ _ h=>h.b) hth hr).app hbr.b,rfl,by obtain⟨u,e⟩:=hbr.e;exact⟨sgw s t gs us th rs++u,by rw[e,List.append_assoc]⟩⟩;obtain⟨l',a',rfl,e⟩:=a1u hy;obtain⟨xs',b',rfl,e1,e2⟩:=b2m e;obtain⟨b'',rfl,e3⟩:=a7U e2;obtain⟨gs',q,rfl,e4,e5⟩:=b2m e1;obtain⟨ps',q,rfl,e6,e7⟩:=b2m e5;obtain⟨th',rs',rfl,e8,e9⟩:=b2m e7;have h1:=px_fn (s:=s) (t:=t) (a:=a') (b1r e4 (a7w (c:=8) (by decide) hg)) (b1r e6 hpo) (b1r e8 (a7w (c:=10) (by decide) hth)) (by have:=a6s e8;omega) (b1r e9 (a7w (c:=9) (by decide) hr)) (bs:=[b'']) (fun y hy=>by rw[List.mem_singleton.1 hy,(a4D e3).1];exact hbr.o) (a3E (hps.imp fun _ _ _ h=>h.p) e6) (.cons (hbr.p _ e3) .nil) (.inl ⟨rfl,rfl⟩) (by
   simp only[SZ,a9B e4,a9B e6,a9B e8,a9B e9];have:b''.sz=b.sz:=by rw[<-b8f b'',e3,b8f]
   omega)
  have e10:sgw s t gs' us th' rs'=sgw s t gs us th rs:=by unfold sgw;rw[c4c e4,thw_er e8,c5g e9]
  rw[e10]at h1;simpa using h1
theorem hr_of (vo:VO V)(h:G V 12 x)(hz:x.sz<=12000):∃w,HR V x w:=by
 cases h with
 | @sg s t gs ps th rs xs a hs ht hx hg hp hth hl hr =>
  subst hx;simp only[SZ]at hz;obtain⟨us,hps⟩:=a7C (R:=MR V) (l:=ps) (N:=12000) (fun y hy h=>gx_x vo (hp y hy) h) (by omega);have hpo:=a7w (c:=4) (by decide) hp;refine⟨sgw s t gs us th rs++[(8,[59])],fun y hy=>?_,⟨s,t,gs,ps,th,rs,us,a,rfl,rfl,ht,hg,hps.imp fun _ _ _ h=>h.r,hth,hl,hr,by simp only[SZ];omega⟩,(bal_sg hs ht hg (a5o hps fun _ _ h=>h.b) hth hr).app (.s (by decide) .nil),rfl⟩;obtain⟨l',a',rfl,e⟩:=a1u hy;obtain⟨gs',q,rfl,e4,e5⟩:=b2m e;obtain⟨ps',q,rfl,e6,e7⟩:=b2m e5;obtain⟨th',rs',rfl,e8,e9⟩:=b2m e7;have h1:=px_fn (s:=s) (t:=t) (a:=a') (o:=0) (vs:=[]) (b1r e4 (a7w (c:=8) (by decide) hg)) (b1r e6 hpo) (b1r e8 (a7w (c:=10) (by decide) hth)) (by have:=a6s e8;omega) (b1r e9 (a7w (c:=9) (by decide) hr)) (bs:=[]) (fun y hy=>by cases hy) (a3E (hps.imp fun _ _ _ h=>h.p) e6) .nil (.inr ⟨rfl,rfl⟩) (by
   simp only[SZ,a9B e4,a9B e6,a9B e8,a9B e9];omega)
  have e10:sgw s t gs' us th' rs'=sgw s t gs us th rs:=by unfold sgw;rw[c4c e4,thw_er e8,c5g e9]
  rw[e10,List.append_nil]at h1;simpa using h1
end
variable {o:Int} {vs:List (List WK)} {l:List Nod} {F:Nat->Nod->List Str->Option (List Str)} {x:Nod}
section
variable {V:Int->Str->Prop}
structure IR (F:Nat->Nod->List Str->Option (List Str))(V:Int->Str->Prop)(x:Nod)(w:List WK):Prop where
 p:PE (PZ F) x w
 b:Bal V w
theorem V3.app {α β:Type}{R:α->β->Prop}{a:List α}{b:List β}{c:List α}{d:List β}(h:V3 R a b)(g:V3 R c d):V3 R (a++c) (b++d):=by
 induction h with
 | nil=>exact g
 | cons h1 _ ih=>exact .cons h1 ih
theorem i_fld (h:G V 13 x):IR J9 V x (a8K x):=by
 cases h with
 | @fld s o t a hs ho ht =>
  refine⟨fun y hy=>?_,?_⟩
  ·obtain⟨l',b,rfl,hl⟩:=a1u hy;cases a2f hl;exact pm_fld ho
  ·have h1:Bal V ((1,s) ::(8,[58]) ::(W t++[(8,[59])])):=.v (.inl rfl) hs (.s (by decide) ((a7S ht).app (.s (by decide) .nil)));rcases ho with rfl|rfl
   ·exact Bal.k (s:=[108,101,116]) (by decide) h1
   ·exact Bal.k (s:=[118,97,114]) (by decide) h1
theorem bal_cs {ts:List Typ}(h:∀t∈ts,GT V false t):Bal V (csw ts):=by
 cases ts with
 | nil=>exact .nil
 | cons t r =>
  refine .p1 (b3X fun w hw=>?_);rw[a5n]at hw;obtain⟨x,hx,rfl⟩:=List.mem_map.1 hw;exact a7S (h x hx)
theorem i_case (h:G V 15 x):IR J9 V x (a9f x):=by
 cases h with
 | @case s o ts a hs ho ht =>
  refine⟨fun y hy=>?_,?_⟩
  ·obtain⟨l',b,rfl,hl⟩:=a1u hy;cases a2f hl;exact pm_case ho
  ·have h1:Bal V ((9,[99,97,115,101]) ::(1,s) ::(csw ts++[(8,[59])])):=.k (by decide) (.v (.inl rfl) hs ((bal_cs ht).app (.s (by decide) .nil)));rcases ho with rfl|rfl
   ·exact h1
   ·exact .k (by decide) h1
theorem i_ass (h:G V 16 x):IR itP V x (b6J x):=by
 cases h with
 | @assoc s l a hs hl =>
  refine⟨fun y hy=>?_,.k (by decide) (.v (.inr (.inl rfl)) hs ((bal_bd hl).app (.s (by decide) .nil)))⟩;obtain⟨l',b,rfl,hl⟩:=a1u hy;have:=pi_assoc (s:=s) (l:=l') (a:=b);rw[bdw_er hl]at this;exact this
theorem i_al (h:G V 17 x):IR itE V x (alw x):=by
 cases h with
 | @alias s t a hs ht =>
  refine⟨fun y hy=>?_,.k (by decide) (.v (.inr (.inl rfl)) hs (.s (by decide) ((a7S ht).app (.s (by decide) .nil))))⟩;obtain⟨l',b,rfl,hl⟩:=a1u hy;cases a2f hl;exact pi_alias
theorem i_dei (vo:VO V)(h:G V 14 x)(hz:x.sz<=12000):∃w,IR J9 V x w/\DeiW x w:=by
 cases h with
 | @dei b a hb =>
  simp only[SZ]at hz;obtain⟨v,g⟩:∃v,BR V b v:=gx_x vo hb (by omega);refine⟨_,⟨fun y hy=>?_,.k (by decide) g.b⟩,b,v,a,rfl,rfl,g.r⟩;obtain⟨l',a',rfl,hl⟩:=a1u hy;obtain⟨x',rfl,e1⟩:=a7U hl;exact pm_dei (g.p _ e1)
theorem i_fn {w:List WK}(h:PE PFn x w)(ho:x.op=7)(hb:Bal V w):IR itP V x w/\IR itE V x w:=⟨⟨fun y hy=>(pi_fn (by rw[(a4D hy).1];exact ho) (h y hy)).1,hb⟩,⟨fun y hy=>(pi_fn (by rw[(a4D hy).1];exact ho) (h y hy)).2,hb⟩⟩
theorem b6E {f:Nod->List WK}{c:Nat}(hf:∀{x},G V c x->IR F V x (f x))(h:∀y∈l,G V c y):V3 (IR F V) l (l.map f):=b2e fun y hy=>hf (h y hy)
theorem c3E (h:V3 (IR F V) l vs):Bal V vs.flatten:=b6O (a5o h fun _ _ h=>h.b)
structure DR (V:Int->Str->Prop)(x:Nod)(w:List WK):Prop where
 p:PE (PZ I5) x w
 r:RD x w
 b:Bal V w
 h:∃s u,w =(9,s)::u/\s∈KYL
 e:∃u,w=u++[(8,[125])]
theorem bal_md (ho:o=0∨o=1∨o=2∨o=3):Bal V (mdw o):=by
 rcases ho with rfl|rfl|rfl|rfl
 ·exact .nil
 ·exact .k (by decide) .nil
 ·exact .k (by decide) .nil
 ·exact .k (by decide) (.k (by decide) .nil)
theorem op_mem {ops:List Int}{l':List Nod}(h:ers l'=ers l)(g:∀y∈l,y.op∈ops):∀y∈l',y.op∈ops:=by
 induction l generalizing l' with
 | nil=>cases a2f h;intro y hy;cases hy
 | cons x r ih =>
  obtain⟨x',r',rfl,h1,h2⟩:=a6r h;intro y hy;rcases List.mem_cons.1 hy with rfl|hy
  ·rw[(a4D h1).1];exact g x (by simp)
  ·exact ih h2 (fun z hz=>g z (by simp[hz])) y hy
theorem b97 {u:Int}{s:Str}{gs ms:List Nod}{a:Int}(hu:u=2∨u=3∨u=4)(ho:o=0∨o=1∨o=2∨o=3)(hs:V 2 s)(hg:∀y∈gs,G V 8 y)(hm:∀y∈ms,y.op∈([13,14,15]:List Int))(h:V3 (IR J9 V) ms vs)(hz:szN (gs++ms)<=13000)(hr:RD ⟨u,s,o,zT,[],gs++ms,a⟩ (mdw o ++((9,tyw u) ::(2,s) ::(gnw gs ++((8,[123]) ::(vs.flatten++[(8,[125])])))))):∃w,DR V ⟨u,s,o,zT,[],gs++ms,a⟩ w:=by
 refine⟨_,fun y hy=>?_,hr,(bal_md ho).app ?_,?_,⟨mdw o ++((9,tyw u) ::(2,s) ::(gnw gs ++((8,[123])::vs.flatten))),by simp⟩⟩
 ·obtain⟨l',a',rfl,e⟩:=a1u hy;obtain⟨gs',ms',rfl,e1,e2⟩:=b2m e;have h1:=pd_type (s:=s) (a:=a') hu ho (b1r e1 (a7w (c:=8) (by decide) hg)) (op_mem e2 hm) (a3E (h.imp fun _ _ _ h=>h.p) e2) (by simp only[SZ,a9B e1,a9B e2]at hz ⊢;exact hz);rw[c4c e1]at h1;exact h1
 ·have h1:Bal V ((2,s) ::(gnw gs ++((8,[123]) ::(vs.flatten++[(8,[125])])))):=.v (.inr (.inl rfl)) hs ((bal_gn hg).app (.s (by decide) ((c3E h).app (.s (by decide) .nil))));rcases hu with rfl|rfl|rfl<;>exact .k (by decide) h1
 ·rcases ho with rfl|rfl|rfl|rfl
  ·rcases hu with rfl|rfl|rfl<;>exact⟨_,_,rfl,by decide⟩
  ·exact⟨_,_,rfl,by decide⟩
  ·exact⟨_,_,rfl,by decide⟩
  ·exact⟨_,_,rfl,by decide⟩
theorem dr_of (vo:VO V)(h:G V 18 x)(hz:x.sz<=12000):∃w,DR V x w:=by
 cases h with
 | @strc s o gs fs ds xs a hs ho hx hg hf hd hl =>
  subst hx;simp only[SZ]at hz;obtain⟨vs,h2⟩:=a7C (R:=fun x w=>IR J9 V x w/\DeiW x w) (l:=ds) (N:=12000) (fun y hy h=>i_dei vo (hd y hy) h) (by omega);refine b97 (vs:=fs.map a8K++vs) (.inl rfl) ho hs hg (fun y hy=>?_) ((b6E i_fld hf).app (h2.imp fun _ _ _ h=>h.1)) (by simp only[SZ];omega) ?_
  ·rcases List.mem_append.1 hy with hy|hy
   ·rw[a7w (c:=13) (by decide) hf y hy];decide
   ·rw[a7w (c:=14) (by decide) hd y hy];decide
  ·have:=c6p (s:=s) (a:=a) (.inr ⟨rfl,ho⟩) hg hf (h2.imp fun _ _ _ h=>h.2) hl (by simp only[SZ];omega);simpa using this
 | @clss s gs fs ds xs a hs hx hg hf hd hl =>
  subst hx;simp only[SZ]at hz;obtain⟨vs,h2⟩:=a7C (R:=fun x w=>IR J9 V x w/\DeiW x w) (l:=ds) (N:=12000) (fun y hy h=>i_dei vo (hd y hy) h) (by omega);refine b97 (vs:=fs.map a8K++vs) (.inr (.inr rfl)) (.inl rfl) hs hg (fun y hy=>?_) ((b6E i_fld hf).app (h2.imp fun _ _ _ h=>h.1)) (by simp only[SZ];omega) ?_
  ·rcases List.mem_append.1 hy with hy|hy
   ·rw[a7w (c:=13) (by decide) hf y hy];decide
   ·rw[a7w (c:=14) (by decide) hd y hy];decide
  ·have:=c6p (s:=s) (a:=a) (.inl ⟨rfl,rfl⟩) hg hf (h2.imp fun _ _ _ h=>h.2) hl (by simp only[SZ];omega);simpa using this
 | @enum s o gs cs a hs ho hg hc =>
  simp only[SZ]at hz;refine b97 (vs:=cs.map a9f) (.inr (.inl rfl)) (ho.elim .inl fun h=>.inr (.inr (.inl h))) hs hg (fun y hy=>?_) (b6E i_case hc) (by simp only[SZ];omega) (rd_enum ho hg hc (by simp only[SZ];omega));rw[a7w (c:=15) (by decide) hc y hy];decide
 | @prot s us ss a hs hu hf =>
  simp only[SZ]at hz;obtain⟨vs,h2⟩:=a7C (R:=HR V) (l:=ss) (N:=12000) (fun y hy h=>hr_of vo (hf y hy) h) (by omega);have hA:V3 (IR itP V) (us++ss) (us.map b6J++vs):=(b6E i_ass hu).app (h2.imp fun _ _ _ h=>(i_fn h.p h.o h.b).1);have hr:=rd_prot (s:=s) (a:=a) hu (h2.imp fun _ _ _ h=>h.r) (by simp only[SZ];omega);refine⟨(9,[112,114,111,116,111,99,111,108]) ::(2,s) ::(8,[123]) ::((us.map b6J++vs).flatten++[(8,[125])]),fun y hy=>?_,by simpa using hr,.k (by decide) (.v (.inr (.inl rfl)) hs (.s (by decide) ((c3E hA).app (.s (by decide) .nil)))),⟨_,_,rfl,by decide⟩,⟨_::_::_::_,rfl⟩⟩;obtain⟨l',a',rfl,e⟩:=a1u hy;exact pd_prot (a3E (hA.imp fun _ _ _ h=>h.p) e)
 | @ext s t rs us fs a hs ht hr hu hf =>
  simp only[SZ]at hz;obtain⟨vs,h2⟩:=a7C (R:=FR V) (l:=fs) (N:=12000) (fun y hy h=>fr_of vo (hf y hy) h) (by omega);have hA:V3 (IR itE V) (us++fs) (us.map alw++vs):=(b6E i_al hu).app (h2.imp fun _ _ _ h=>(i_fn h.p h.o h.b).2);have h3:=rd_ext (s:=s) (a:=a) ht hr hu (h2.imp fun _ _ _ h=>h.r) (by simp only[SZ];omega);refine⟨(9,[101,120,116,101,110,100]) ::(W t ++((8,[58]) ::(2,s) ::(whw rs ++((8,[123]) ::((us.map alw++vs).flatten++[(8,[125])]))))),fun y hy=>?_,by simpa using h3,.k (by decide) ((a7S ht).app (.s (by decide) (.v (.inr (.inl rfl)) hs ((bal_wh hr).app (.s (by decide) ((c3E hA).app (.s (by decide) .nil))))))),⟨_,_,rfl,by decide⟩,⟨(9,[101,120,116,101,110,100]) ::(W t ++((8,[58]) ::(2,s) ::(whw rs ++((8,[123]) ::(us.map alw++vs).flatten)))),by simp⟩⟩;obtain⟨l',a',rfl,e⟩:=a1u hy;obtain⟨rs',ms',rfl,e1,e2⟩:=b2m e;have h1:=pd_ext (s:=s) (t:=t) (a:=a') (b1r e1 (a7w (c:=9) (by decide) hr)) (op_mem e2 (fun y hy=>by
   rcases List.mem_append.1 hy with hy|hy
   ·rw[a7w (c:=17) (by decide) hu y hy];decide
   ·rw[a7w (c:=11) (by decide) hf y hy];decide)) (a3E (hA.imp fun _ _ _ h=>h.p) e2) (by simp only[SZ,a9B e1,a9B e2];omega)
  rw[c5g e1]at h1;exact h1
 | «fun» h =>
  obtain⟨w,g⟩:=fr_of vo h hz;refine⟨w,fun y hy=>pd_fn (by rw[(a4D hy).1];exact g.o) (g.p y hy),rd_dfn g.r,g.b,?_,g.e⟩;obtain⟨⟨u,rfl⟩,_⟩:=g.r;exact⟨_,_,rfl,by decide⟩
end
def srcA:Str:=[102,117,110,99,32,102,40,120,58,32,73,110,116,41,32,45,62,32,73,110,116,32,123,32,114,101,116,117,114,110,32,120,32,43,32,50,32,42,32,51,59,32,125]
def runM (u:Str):Nat->Sc.MS->Sc.MR
 | 0,x=>.go x
 | n+1,x=>match Sc.stepM u x with
  | .go y=>runM u n y
  | r=>r
theorem b3r {u:Str}:∀(n:Nat) (x:Sc.MS) (l:List Sc.Tok),runM u n x=.done l->Sc.Ends u x (.done l)
 | 0,x,l,h=>by cases h
 | n+1,x,l,h=>by
  unfold runM at h;cases hs:Sc.stepM u x with
  | go y =>
   rw[hs]at h;exact Sc.Ends.a03 u (.step _ _ _ hs (.refl _)) (b3r n y l h)
  | err c a=>rw[hs]at h;cases h
  | done m=>rw[hs]at h;cases h;exact⟨x,.refl _,hs,fun z h=>by cases h⟩
def tksA:List Sc.Tok:=match runM srcA 40 ⟨0,[],[]⟩with
 | .done l=>l
 | _=>[]
theorem tok_A:Sc.a2y srcA=.done tksA:=Sc.Ends.det _ ((Sc.a6L srcA).2.2 (by decide)) (b3r 40 _ _ (by kernel_rfl))
noncomputable def nodA:Nod:=match U1 1000000 srcA (tksA.map c1N) 1000000 1 [] [] 0 with
 | some (_,[x])=>x
 | _=>⟨0,[],0,⟨0,[],0,[]⟩,[],[],0⟩
theorem mod_A:U1 1000000 srcA (tksA.map c1N) 1000000 1 [] [] 0=some ([],[nodA]):=by kernel_rfl
noncomputable def wsA:List Str:=(I5 1000000 nodA []).getD []
theorem prt_A:I5 1000000 nodA []=some wsA:=by kernel_rfl
theorem txt_A:a3t wsA=some (Lib.join wsA [32]):=by kernel_rfl
theorem c3C:a4G 1000000=some true:=by
 have h1:a0r 1000000 srcA=some (⟨1,[],0,⟨0,[],0,[]⟩,[],[nodA],0⟩,[]):=by
  have c1:b3G (Sc.a2y srcA)=0:=by rw[tok_A];rfl
  have c2:tokA (Sc.a2y srcA)=0:=by rw[tok_A];rfl
  unfold a0r a5W a8n;simp only[NF,c1,c2,show eqB 0 0=true from a0z rfl,Bool.and_self];rw[tok_A,show a9b (.done tksA)=tksA.map c1N from rfl,mod_A];rfl
 have h2:a5O ⟨1,[],0,⟨0,[],0,[]⟩,[],[nodA],0⟩=some (Lw.printed [Lib.join wsA [32]]):=by
  have hl:Lw.Lines (Lw.b5T Pr.env) (D9 [nodA]) [Lib.join wsA [32]]:=by
   have e:D9 [nodA]=b8R nodA++[]:=b98.cons nodA [];rw[e];exact .cons _ _ _ _ rfl ⟨_,_,a4R.ok prt_A,a7Y.ok txt_A⟩ .nil
  unfold a5O;rw[a8a (h:=Pr.a8X) rfl (Lw.b9C Lw.b9e hl (show [Lib.join wsA [32]].length=[nodA].length from rfl) (by decide) (Nat.le_of_ble_eq_true (by kernel_rfl)))]
 have h3:eqS (Lw.printed [Lib.join wsA [32]]) [102,117,110,99,32,102,32,40,32,120,32,58,32,73,110,116,32,41,32,45,62,32,73,110,116,32,123,32,114,101,116,117,114,110,32,40,32,120,32,43,32,40,32,50,32,42,32,51,32,41,32,41,32,59,32,125,10]=true:=by kernel_rfl
 unfold a4G;show((a0r 1000000 srcA).bind _)=some true;rw[h1];simp only[NF,show eqB ((([]:List Flt).length:Nat):Int) 0=true from a0z rfl];rw[h2];simp only[NF,h3]
variable {vs:List (List WK)} {xs:List Nod} {l:List Sc.Tok} {w:List WK} {n:Nat} {s:Str}
theorem tokT_mem {l:List Tok}{k:Nat}(h:k<l.length):a3x l k∈l:=by
 unfold a3x;rw[List.getElem?_eq_getElem h];exact List.getElem_mem h
theorem c7T (s:Str):(eqB (b3G (Sc.a2y s)) 0=true/\eqB (tokA (Sc.a2y s)) 0=true)∨eqB (b3G (Sc.a2y s)) 0=false:=by
 rcases tok_code s with⟨h1,h2⟩ |⟨h1,_⟩
 ·exact .inl ⟨a0z h1,a0z h2⟩
 ·exact .inr (a1t h1)
theorem tok_v1:∀t∈a9b (Sc.a2y s),Sc.V1 t.kind t.text:=by
 intro t ht;cases h:Sc.a2y s with
 | done l =>
  rw[h]at ht;obtain⟨u,hu,rfl⟩:=List.mem_map.1 ht;exact Sc.tok_V1 h u hu
 | go x=>rw[h]at ht;cases ht
 | err c a=>rw[h]at ht;cases ht
theorem cx1 (s:Str):Cx Sc.V1 (a9b (Sc.a2y s)) where
 hl:=b8k s
 tk {k kd} h:=by
  have hk:(a3x (a9b (Sc.a2y s)) k).kind=kd:=by
   unfold isK at h;rw[Bool.and_eq_true,a9m]at h;exact of_decide_eq_true h.2
  rw[<-hk];exact tok_v1 _ (tokT_mem (b5i h))
 lit h:=by
  have hh:=h.elim (fun h=>h.2.2 (by omega)) fun h=>h.elim (fun h=>h.2.2 (by omega)) fun h=>h.2.2 (by omega);exact⟨fun h=>by omega,fun h=>by omega,fun _=>hh⟩
 int h:=Sc.b4E (h.2.1 rfl).1
theorem vo1:VO Sc.V1 where
 n3 h:=numw_of (h.2.1 rfl).1
 d3 h:=Sc.b4E (h.2.1 rfl).1
 t4 h:=by have:=(h.2.2 (by omega)).2;omega
theorem kt_tok (h:Sc.a2y s=.done l):kt (a9b (Sc.a2y s))=Sc.KT l:=by
 rw[h];simp only[kt,a9b,Sc.KT,List.map_map];rfl
def zN:Nod:=⟨0,[],0,zT,[],[],0⟩
theorem SG_len:SGL.all (fun s=>decide (s.length<=8000))=true:=by decide
theorem KY_len:KYL.all (fun s=>decide (s.length<=8000))=true:=by decide
theorem iw_mem {p:WK}:∀{vs:List (List WK×Str)},p∈iw vs ->(∃v∈vs,p∈v.1) ∨ ∃v∈vs,p.2=v.2
 | [v],h=>by
  rw[iw]at h;rcases List.mem_append.1 h with h|h
  ·exact .inl ⟨v,by simp,h⟩
  ·rcases List.mem_singleton.1 h with rfl;exact .inr ⟨v,by simp,rfl⟩
 | v::q::r,h=>by
  rw[iw]at h;rcases List.mem_append.1 h with h|h
  ·exact .inl ⟨v,by simp,h⟩
  ·rcases List.mem_cons.1 h with rfl|h
   ·exact .inr ⟨v,by simp,rfl⟩
   ·rcases iw_mem h with⟨u,h1,h2⟩ |⟨u,h1,h2⟩
    ·exact .inl ⟨u,by simp[List.mem_cons.1 h1],h2⟩
    ·exact .inr ⟨u,by simp[List.mem_cons.1 h1],h2⟩
theorem v1_len {k:Int}(hk:k=1∨k=2∨k=3∨k=4)(h:Sc.V1 k s):s.length<=8000:=by
 rcases Nat.lt_or_ge 8000 s.length with hl|hl
 ·exfalso;rcases hk with rfl|rfl|rfl|rfl
  ·have:=(h.1 (.inl rfl)).2.2.2.1;rw[X6 (by omega)]at this;cases this
  ·have:=(h.1 (.inr rfl)).2.2.2.1;rw[X6 (by omega)]at this;cases this
  ·have:=Sc.b4E (h.2.1 rfl).1;simp only[b4x,Bool.and_eq_true,Nat.ble_eq]at this;omega
  ·have:=(h.2.2 (by omega)).2;omega
 ·exact hl
theorem bal_wd (h:Bal Sc.V1 w):∀p∈w,p.2.length<=8000:=by
 induction h with
 | nil=>intro p hp;cases hp
 | @tok q r h1 _ ih =>
  intro p hp;rcases List.mem_cons.1 hp with rfl|hp
  ·rcases h1 with⟨hk,hv⟩ |⟨_,hs⟩ |⟨_,hs⟩|h
   ·exact v1_len hk hv
   ·exact of_decide_eq_true (List.all_eq_true.1 SG_len _ hs)
   ·exact of_decide_eq_true (List.all_eq_true.1 KY_len _ hs)
   ·rw[h];simp
  ·exact ih p hp
 | par _ _ ih1 ih2 =>
  intro p hp;rcases List.mem_cons.1 hp with rfl|hp
  ·simp
  ·rcases List.mem_append.1 hp with hp|hp
   ·exact ih1 p hp
   ·rcases List.mem_cons.1 hp with rfl|hp
    ·simp
    ·exact ih2 p hp
 | int h1 _ _ h4 _ ih3 ih5 =>
  intro p hp;rcases List.mem_cons.1 hp with rfl|hp
  ·exact(h1.2.2 (by omega)).2
  ·rcases List.mem_append.1 hp with hp|hp
   ·rcases iw_mem hp with⟨v,g1,g2⟩ |⟨v,g1,g2⟩
    ·exact ih3 v g1 p g2
    ·rw[g2];exact((h4 v g1).2.2 (by omega)).2
   ·exact ih5 p hp
theorem spK_len (k:Int)(x:Str):(Sc.spK k x).length<=2*x.length+3:=by
 have hl:=Rp.b2n x;unfold Sc.spK;repeat' split
 all_goals first|omega |(simp only[List.length_cons,List.length_append,List.length_nil];omega)
theorem c6u:∀(w:List WK),(∀p∈w,p.2.length<=8000) ->(Sc.spW w).length<=w.length*16010
 | [],_=>by simp[Sc.spW,List.intercalate]
 | p::r,h=>by
  have h1:=spK_len p.1 p.2;have h2:=h p (by simp);have ih:=c6u r fun q hq=>h q (by simp[hq]);rw[Sc.b0C];cases r with
  | nil=>simp only[List.length_append,List.length_nil,List.length_cons];omega
  | cons q r=>simp only[List.length_append,List.length_cons]at ih ⊢;omega
theorem join_sp (w:List WK):Lib.join (sp w) [32]=Sc.spW w:=by
 unfold sp Sc.spW Lib.join;rfl
def txt (vs:List (List WK)):Str:=Lw.printed (vs.map Sc.spW)
theorem b21 (w:List WK)(r:List (List WK)):txt (w::r)=Sc.spW w ++(10::txt r):=by simp[txt,Lw.printed]
theorem line_ok {d:Nod}(h:DR Sc.V1 d w)(hz:d.sz<=12000){y:Nod}(hy:y.er=d.er):Lw.b5T Pr.env (b8R y) (Sc.spW w)/\(Sc.spW w).length<=2000000000:=by
 have hz2:y.sz=d.sz:=by rw[<-b8f,hy,b8f]
 obtain⟨h1,h2⟩:=h.p y hy;have h3:=c6u w (bal_wd h.b);have hl:(Sc.spW w).length<=2000000000:=by omega
 have e:I5 400000 y []=some (sp w):=h2 400000 [] (by omega) (by simp only[List.length_nil];omega);have e2:a3t (sp w)=some (Sc.spW w):=by
  unfold a3t c2e leN;rw[join_sp,decide_eq_true (by simp only[WL];omega),decide_eq_true (by omega)];rfl
 exact⟨⟨_,_,a4R.ok e,a7Y.ok e2⟩,hl⟩
theorem lines_v (h:V3 (DR Sc.V1) xs vs):∀{ys:List Nod},(∀x∈xs,x.sz<=12000)->ers ys=ers xs->Lw.Lines (Lw.b5T Pr.env) (D9 ys) (vs.map Sc.spW)/\(txt vs).length<=vs.length*2000000001:=by
 induction h with
 | nil=>intro ys _ he;cases a2f he;exact⟨.nil,by simp[txt,Lw.printed]⟩
 | @cons x w xs vs h1 h2 ih =>
  intro ys hz he;obtain⟨y,r,rfl,g1,g2⟩:=a6r he;obtain⟨k1,k2⟩:=line_ok h1 (hz x (by simp)) g1;obtain⟨k3,k4⟩:=ih (fun z hz'=>hz z (by simp[hz'])) g2;have e:D9 (y::r)=b8R y++D9 r:=b98.cons y r;refine⟨by rw[e];exact .cons _ _ _ _ rfl k1 k3,?_⟩;rw[b21];simp only[List.length_append,List.length_cons];omega
theorem b6u {o n:Int}{t:Typ}{ts:List Typ}{a:Int}{ys:List Nod}(h:V3 (DR Sc.V1) xs vs)(hz:szN xs<=12000)(he:ers ys=ers xs):a5O ⟨o,s,n,t,ts,ys,a⟩=some (txt vs):=by
 have hl:=a00 xs;have hv:=h.len;have hy:=a6s he;obtain⟨g1,g2⟩:=lines_v h (fun x hx=>by have:=a1Q hx;omega) he;have hm:(vs.map Sc.spW).length=ys.length:=by rw[List.length_map];omega
 have hm2:(vs.map Sc.spW).length<=140737488355328:=by rw[List.length_map];omega
 unfold a5O;rw[a8a (h:=Pr.a8X) rfl (Lw.b9C Lw.b9e g1 hm hm2 (show(txt vs).length<=140737488355328 by omega))];rfl
theorem KY_hd:KYL.all (fun s=>!s.isEmpty&&(Nat.ble (s.headD 0).toNat 127 && !Lib.isSp (s.headD 0)))=true:=by decide
theorem c6v (p:WK):∀u:List WK,∃q,Sc.spW (u++[p])=q++Sc.spK p.1 p.2
 | []=>⟨[],by rw[List.nil_append,Sc.b0C];simp⟩
 | x::u=>by
  obtain⟨q,e⟩:=c6v p u;rw[List.cons_append,Sc.b0C];cases hu:u++[p]with
  | nil=>simp at hu
  | cons y r=>rw[hu]at e;exact⟨Sc.spK x.1 x.2 ++(32::q),by simp[e]⟩
theorem txt_end (h:V3 (DR Sc.V1) xs vs)(hne:vs ≠ []):∃q,txt vs=q++[125,10]:=by
 induction h with
 | nil=>exact absurd rfl hne
 | @cons x w xs vs h1 h2 ih =>
  rw[b21];cases h2 with
  | nil =>
   obtain⟨u,e⟩:=h1.e;obtain⟨q,e2⟩:=c6v (8,[125]) u;rw[e,e2];exact⟨q,by simp[txt,Lw.printed,Sc.spK]⟩
  | cons _ _ =>
   obtain⟨q,e⟩:=ih (by simp);exact⟨_ ++(10::q),by rw[e,List.append_assoc];rfl⟩
theorem trim_v (h:V3 (DR Sc.V1) xs vs)(hne:vs ≠ [])(hl:(txt vs).length<=8000):∃r,b9Q (txt vs)=some r/\eqS r []=false:=by
 obtain⟨q,e⟩:=txt_end h hne;have e1:Tr.rtr (txt vs)=some (q++[125]):=by
  rw[e];unfold Tr.rtr;have e2:(q++[125,10]:Str).reverse=10::125::q.reverse:=by simp
  rw[e2,List.dropWhile_cons,if_pos (by decide),List.dropWhile_cons,if_neg (by decide)];simp
 refine⟨q++[125],?_,by cases q<;>simp[eqS]⟩;cases h with
 | nil=>exact absurd rfl hne
 | @cons x w xs vs h1 h2 =>
  obtain⟨s,u,rfl,hs⟩:=h1.h;have hk:=List.all_eq_true.1 KY_hd s hs;obtain⟨z,et⟩:∃z,txt (((9,s)::u)::vs)=s++z:=⟨_,by rw[b21,Sc.b0C,List.append_assoc];rfl⟩
  cases s with
  | nil=>simp at hk
  | cons b s =>
   simp only[List.isEmpty_cons,Bool.not_false,List.headD_cons,Bool.true_and]at hk;show Tr.b9P _=_;unfold Tr.b9P;split
   ·rename_i h0;rw[et]at h0;simp at h0
   ·rename_i x t h0;have hx:x=b:=by
     have:=congrArg (·.headD 0) h0;rw[et]at this;simpa using this.symm
    have hb:leN (txt (((9,b::s)::u)::vs)).length 1000000=true:=b2u (by omega);rw[hb,hx];simp only[Bool.true_and];rw[hk];exact e1
theorem c5c:∀(vs:List (List WK)),(∀w∈vs,w ≠ [])->vs ≠ [] -> ∀pre:Str,(pre=[]∨pre=[32]∨pre=[10])->Sc.Ly vs.flatten (pre++txt vs)
 | [],_,h,_,_=>absurd rfl h
 | [w],hw,_,pre,hp=>by
  have:=Sc.ly_sp (b:=[]) (t:=[10]) .nl (.inr ⟨10,[],rfl,.inr (.inr (.inr rfl))⟩) w pre hp (hw w (by simp));rw[b21];simpa [txt,Lw.printed]using this
 | w::v::r,hw,_,pre,hp=>by
  have ih:=c5c (v::r) (fun z hz=>hw z (List.mem_cons_of_mem _ hz)) (by simp) [10] (.inr (.inr rfl));have:=Sc.ly_sp ih (.inr ⟨10,_,rfl,.inr (.inr (.inr rfl))⟩) w pre hp (hw w (by simp));rw[b21,List.flatten_cons];exact this
theorem c77 (h:∀w∈vs,Bal Sc.V1 w):Sc.Ch [] vs.flatten []:=Sc.bal_ch (b6O h) [] (.inl rfl)
theorem c6E (h:V3 (DR Sc.V1) xs vs)(hne:vs ≠ [])(h8:(txt vs).length<=8000)(hr:Sc.a2y (txt vs)=.done l):Sc.KT l=vs.flatten:=by
 have hw:∀w∈vs,w ≠ []:=a5o h fun x w h=>by obtain⟨s,u,rfl,_⟩:=h.h;simp
 have hy:=c5c vs hw hne [] (.inl rfl);have:=(Sc.said (b:=[]) (c77 (a5o h fun _ _ h=>h.b)) (.nil _) (by simpa using hy) h8 hr).1;simpa using this
theorem c6C:Sc.a2y []=.done []:=by
 obtain⟨m,h1,h2⟩:=Sc.say (u:=[]) (ws:=[]) (.nil _) .nil (by simp) (by simp);rw[h1];cases m with
 | nil=>rfl
 | cons a r=>simp[Sc.KT]at h2
theorem mod_lp (hn:400000<=n){src:Str}{l:List Tok}(hl:l.length<=3000)(h:V3 (DR Sc.V1) xs vs):∀(m k:Nat) (acc:List Nod),At l k vs.flatten->xs.length<m->acc.length+xs.length<=9000->1+a2K acc+a2K xs<=4000 ->(∀x∈xs,x.dep<=39/\x.sz<=12000) -> ∃ys,U1 n src l m ((1+a2K acc:Nat):Int) [] acc k=some ([],acc++ys)/\ers ys=ers xs:=by
 induction h with
 | nil =>
  intro m k acc hA hm ha hc hd;obtain⟨m,rfl⟩:∃q,m=q+1:=⟨m-1,by omega⟩
  have hw:=hA.wl;simp only[List.flatten_nil,List.length_nil]at hw;refine⟨[],?_,rfl⟩;rw[U1.eq_2,a0C (show ¬(k:Int)<(l.length:Int)by omega),List.append_nil];rfl
 | @cons x w xs vs h1 h2 ih =>
  intro m k acc hA hm ha hc hd;simp only[List.length_cons,a2K]at hm ha hc;obtain⟨m,rfl⟩:∃q,m=q+1:=⟨m-1,by omega⟩
  rw[List.flatten_cons]at hA;have hw:=hA.wl;obtain⟨hd1,hz⟩:=hd x (by simp);have hwn:1<=w.length:=by obtain⟨s,u,rfl,_⟩:=h1.h;simp
  rw[List.length_append]at hw;obtain⟨_,e,y,q,rfl,he,hA2⟩:=h1.r (size:=(src.length:Int)) hn hA;have hsz:y.sz=x.sz:=by rw[<-b8f,he,b8f]
  have hct:y.cnt=x.cnt:=by rw[<-c3Q,he,c3Q]
  have hdp:y.dep=x.dep:=by rw[<-c3T,he,c3T]
  obtain⟨ys,e2,he2⟩:=ih m q (acc++[y]) hA2 (by omega) (by simp only[List.length_append,List.length_singleton];omega) (by rw[b4w];simp only[a2K];omega) (fun z hz=>hd z (by simp[hz]));refine⟨y::ys,?_,a2g he he2⟩;have ec:((1+a2K (acc++[y]):Nat):Int)=w64 (((1+a2K acc:Nat):Int)+(y.cnt:Int)):=by
   rw[a4m (by omega) (by omega),b4w];simp only[a2K];omega
  rw[ec]at e2;rw[U1.eq_2,X6 (show(k:Int)<(l.length:Int)by omega)];have f0:ltB ((([]:List Flt).length:Nat):Int) 20=true:=X6 (by simp);simp only[NF,f0];rw[b7d hA.hl hA.hk];unfold a2i a4o;simp only[NF];rw[e];have z0:eqB 0 0=true:=a0z rfl;simp only[NF,z0,Bool.and_self];rw[c01 n y (by omega) (by omega)];have e1:w64 (1+(y.dep:Int)) =((1+y.dep:Nat):Int):=by rw[a4m (by omega) (by omega)];omega
  have g1:ltB 40 (w64 (1+(y.dep:Int)))=false:=by rw[e1];exact a0C (by omega)
  have g2:ltB 4000 (w64 (((1+a2K acc:Nat):Int)+(y.cnt:Int)))=false:=by rw[a4m (by omega) (by omega)];exact a0C (by omega)
  simp only[NF,g1,g2];rw[a3Z (by omega) (by simp) (by omega)];simp only[NF];rw[e2,List.append_assoc];rfl
theorem mod_of (hn:400000<=n)(h:V3 (DR Sc.V1) xs vs)(h8:(txt vs).length<=8000)(hr:Sc.a2y (txt vs)=.done l)(hc:1+a2K xs<=4000)(hz:szN xs<=12000)(hd:∀x∈xs,x.dep<=39):∃ys,a0r n (txt vs)=some (⟨1,[],0,zT,[],ys,0⟩,[])/\ers ys=ers xs:=by
 have hl:=b8k (txt vs);have hx:=R9 xs;have hk:kt ((a9b (Sc.a2y (txt vs))).drop 0)=vs.flatten:=by
  rw[List.drop_zero,kt_tok hr];by_cases hne:vs=[]
  ·subst hne;have e:Sc.a2y (txt [])=.done []:=c6C;rw[e]at hr;cases hr;rfl
  ·exact c6E h hne h8 hr
 obtain⟨ys,e,he⟩:=mod_lp hn (src:=txt vs) hl h n 0 [] ⟨hl,Nat.zero_le _,hk⟩ (by omega) (by simp only[List.length_nil];omega) (by simp only[a2K];omega) (fun x hx=>⟨hd x hx,by have:=a1Q hx;omega⟩);have e:U1 n (txt vs) (a9b (Sc.a2y (txt vs))) n 1 [] [] 0=some ([],ys):=e;refine⟨ys,?_,he⟩;have c1:b3G (Sc.a2y (txt vs))=0:=by rw[hr];rfl
 have c2:tokA (Sc.a2y (txt vs))=0:=by rw[hr];rfl
 unfold a0r a5W a8n;simp only[NF,c1,c2,show eqB 0 0=true from a0z rfl,Bool.and_self,e]
theorem module_v (hn:400000<=n)(s:Str):(∃f,a0r n s=some (zN,[f])) ∨ ∃xs fs,a0r n s=some (⟨1,[],0,zT,[],xs,0⟩,fs)/\1+a2K xs<=4000/\szN xs<=12000 /\ ∀x∈xs,G Sc.V1 18 x/\x.dep<=39:=by
 unfold a0r a5W a8n;simp only[NF];rcases c7T s with⟨h1,h2⟩|h1
 ·simp only[h1,h2,NF,Bool.and_self];have hl:=b8k s;obtain⟨a,e,h5,h6,h7⟩:=b7u (cx1 s) (n:=n) (src:=s) hn rfl n 0 [] [] (Nat.zero_le _) (by omega) (by simp) (by simp[a2K]) (by simp[szN]) all_nil;have e:U1 n s (a9b (Sc.a2y s)) n 1 [] [] 0=some a:=e;rw[e];exact .inr ⟨a.2,a.1,rfl,h5,h6,h7⟩
 ·simp only[h1,NF,Bool.false_and];exact .inl ⟨_,rfl⟩
variable {k:Int} {S S':List Int} {xs:List Nod} {x:Str}
def nxS (k:Int)(x:Str)(S:List Int):List Int:=if k=7 then S.tail else if k=5 then 0::S else if k=8 then Sc.b5E x S else S
theorem ts_nx (h:Sc.TS S k x S'):S'=nxS k x S:=by
 cases h with
 | name _ _ _ _ _ _ =>
  unfold Sc.a4F;split
  ·rfl
  ·split<;>rfl
 | _=>rfl
theorem tp_nx (h:Sc.TP S k x S'):S'=nxS k x S:=by
 cases h with
 | of h=>exact ts_nx h
 | _=>rfl
theorem cs_cut {S1 S2:List Int}{a b:List WK}(h:Sc.Ch S a S1):Sc.Cs S (a++b) S2->Sc.Cs S1 b S2:=by
 induction h with
 | nil S=>exact id
 | cons h1 _ ih =>
  intro g;rw[List.cons_append]at g;cases g with
  | cons k1 k2 =>
   rw[ts_nx k1,<-tp_nx h1]at k2;exact ih k2
theorem all2_at {R:Nod->List WK->Prop}{vs:List (List WK)}(h:V3 R xs vs):∀{i:Nat} (hi:i<xs.length),∃A w B,vs=A++w::B/\R xs[i] w:=by
 induction h with
 | nil=>intro i hi;simp at hi
 | @cons x w xs vs h1 h2 ih =>
  intro i hi;cases i with
  | zero=>exact⟨[],w,vs,rfl,h1⟩
  | succ i =>
   obtain⟨A,u,B,e,g⟩:=ih (i:=i) (by simpa using hi);exact⟨w::A,u,B,by rw[e];rfl,g⟩
theorem b8w:∀l:List Nod,ers l=l.map Nod.er
 | []=>rfl
 | x::r=>by rw[ers,b8w r];rfl
theorem ers_at {ys:List Nod}(h:ers ys=ers xs){i:Nat}(h1:i<ys.length)(h2:i<xs.length):ys[i].er=xs[i].er:=by
 rw[b8w,b8w]at h;simpa [h1,h2]using congrArg (·[i]?) h
theorem c74 {x:Nod}:∀{l:List Nod},x∈l->x.cnt<=a2K l
 | y::r,h=>by
  simp only[a2K];rcases List.mem_cons.1 h with rfl|h
  ·omega
  ·have:=c74 h;omega
theorem line_tok {A B:List (List WK)}{w:List WK}(hb:∀v∈A++w::B,Bal Sc.V1 v)(hw:∀v∈A++w::B,v ≠ [])(h8:(txt (A++w::B)).length<=8000){l:List Sc.Tok}(hr:Sc.a2y (txt (A++w::B))=.done l):(txt [w]).length<=8000 /\ ∃m,Sc.a2y (txt [w])=.done m:=by
 have e:(A++w::B).flatten =(A.flatten++w)++B.flatten:=by simp
 have hy:=c5c _ hw (by simp) [] (.inl rfl);rw[e,List.nil_append]at hy;have c0:Sc.Ch [] A.flatten []:=c77 fun v hv=>hb v (by simp[hv]);have c1:Sc.Ch [] w []:=Sc.bal_ch (hb w (by simp)) [] (.inl rfl);have c2:Sc.Ch [] B.flatten []:=c77 fun v hv=>hb v (by simp[hv]);obtain⟨k1,k2⟩:=Sc.said (c0.app c1) c2 hy h8 hr;have h9:(txt [w]).length<=8000:=by
  have e2:txt (A++w::B)=txt A ++(Sc.spW w ++(10::txt B)):=by simp[txt,Lw.printed]
  rw[e2]at h8;rw[b21,show txt []=[]from rfl];simp only[List.length_append,List.length_cons,List.length_nil]at h8 ⊢;omega
 have h3:w.length<=3000:=by
  have hl:=b8k (txt (A++w::B));have q:=congrArg List.length ((kt_tok hr).trans k1);simp only[kt,List.length_map,List.length_append]at q;omega
 have hy1:Sc.Ly w (txt [w]):=by simpa using c5c [w] (fun v hv=>hw v (by simp at hv;simp[hv])) (by simp) [] (.inl rfl)
 obtain⟨m,g,_⟩:=Sc.say (cs_cut c0 k2) hy1 h3 h9;exact⟨h9,m,g⟩
theorem rec_lp {xs ys:List Nod}{vs:List (List WK)}(h:V3 (DR Sc.V1) xs vs)(h8:(txt vs).length<=8000){l:List Sc.Tok}(hr:Sc.a2y (txt vs)=.done l)(hc:1+a2K xs<=4000)(hz:szN xs<=12000)(hd:∀x∈xs,x.dep<=39)(he:ers ys=ers xs):∀m i:Nat,i<=xs.length->xs.length<m+i->a5a 1000000 m i ⟨1,[],0,zT,[],xs,0⟩ ⟨1,[],0,zT,[],ys,0⟩=some (.brk ())
 | 0,i,h1,h2=>by omega
 | m+1,i,h1,h2=>by
  have hx:=a00 xs;have ih:=rec_lp h h8 hr hc hz hd he m (i+1);rw[a5a.eq_2];have ew:w64 ((i:Int)+1) =((i+1:Nat):Int):=by rw[a4m (by omega) (by omega)];omega
  rcases Nat.lt_or_ge i xs.length with hi|hi
  ·rw[X6 (show(i:Int)<(xs.length:Int)by omega),ew,b4Y (show i<=i+1 by omega) hi];have e1:(xs.take (i+1)).drop i=[xs[i]]:=by rw[List.drop_take,List.drop_eq_getElem_cons hi,show i+1-i=1 by omega];rfl
   obtain⟨A,w,B,rfl,hxw⟩:=all2_at h hi;have hm:xs[i]∈xs:=List.getElem_mem hi;have hz1:=a1Q hm;have hc1:=c74 hm;obtain⟨h9,q,hq⟩:=line_tok (a5o h fun _ _ h=>h.b) (a5o h fun x w h=>by obtain⟨s,u,rfl,_⟩:=h.h;simp) h8 hr;have h1w:V3 (DR Sc.V1) [xs[i]] [w]:=.cons hxw .nil;have p1:a5O ⟨1,[],0,(⟨0,[],0,[]⟩:Typ),[],[xs[i]],0⟩=some (txt [w]):=b6u h1w (by simp only[szN];omega) rfl;obtain⟨zs,g1,g2⟩:=mod_of (n:=1000000) (by omega) h1w h9 hq (by simp only[a2K];omega) (by simp only[szN];omega) (fun x hx=>by simp at hx;subst hx;exact hd _ hm);obtain⟨z,rfl,g3⟩:=a7U g2;have hyl:=a6s he;have hiy:i<ys.length:=by omega
   have s1:a07 1000000 z xs[i]=some true:=by
    have:z.sz=xs[i].sz:=by rw[<-b8f,g3,b8f]
    exact b1i (by omega) (by omega) g3
   have s2:a07 1000000 ys[i] xs[i]=some true:=by
    have g4:=ers_at he hiy hi;have:ys[i].sz=xs[i].sz:=by rw[<-b8f,g4,b8f]
    exact b1i (by omega) (by omega) g4
   simp only[NF,e1,p1,g1,a0k hi,a0k hiy,show idx' [z] 0=some z from a0k (l:=[z]) (i:=0) Nat.zero_lt_one,s1,s2,show eqB ((([]:List Flt).length:Nat):Int) 0=true from a0z rfl,show eqB ((([z]:List Nod).length:Nat):Int) 1=true from a0z rfl];exact ih (by omega) (by omega)
  ·rw[a0C (show ¬(i:Int)<(xs.length:Int)by omega)];rfl
theorem b37 (s:Str):a5V 1000000 s=some true:=by
 unfold a5V b0R;simp only[NF,c3C];cases ltB 8200 (s.length:Int)
 ·simp only[NF];rcases module_v (n:=1000000) (by omega) s with⟨f,e⟩ |⟨xs,fs,e,hc,hz,hG⟩
  ·rw[e];simp only[NF,show eqB zN.op 0=true from a0z rfl]
  ·rw[e];obtain⟨vs,h⟩:=b6f (R:=DR Sc.V1) fun x hx=>dr_of vo1 (hG x hx).1 (by have:=a1Q hx;omega);have e2:a5O ⟨1,[],0,zT,[],xs,0⟩=some (txt vs):=b6u h hz rfl;simp only[NF,e2,show eqB 1 0=false from a1t (by omega)];unfold b0Q a8n;rcases Nat.lt_or_ge 8000 (txt vs).length with g8|g8
   ·rw[X6 (by omega)];simp only[NF]
   ·rw[a0C (by omega)];simp only[NF];cases hr:Sc.a2y (txt vs)with
    | go y =>
     have:=(Sc.b42 (txt vs)).1;rw[hr]at this;exact this.elim
    | err c a =>
     have hne:vs ≠ []:=fun e=>by
      subst e;have:Sc.a2y (txt [])=.done []:=c6C;rw[this]at hr;cases hr
     obtain⟨r,k1,k2⟩:=trim_v h hne g8;rw[show a9b (Sc.MR.err c a)=[]from rfl,a0C (by simp)];simp only[NF,k1,k2]
    | done l =>
     obtain⟨ys,k1,k2⟩:=mod_of (n:=1000000) (by omega) h g8 hr hc hz fun x hx=>(hG x hx).2;have k3:=rec_lp h g8 hr hc hz (fun x hx=>(hG x hx).2) k2 1000000 0 (Nat.zero_le _) (by have:=a00 xs;omega);have k4:=a6s k2;rw[k1];have k3:a5a 1000000 1000000 0 ⟨1,[],0,zT,[],xs,0⟩ ⟨1,[],0,zT,[],ys,0⟩=some (.brk ()):=k3;have z0:eqB ((([]:List Flt).length:Nat):Int) 0=true:=a0z rfl;have z1:eqB ((ys.length:Nat):Int) ((xs.length:Nat):Int)=true:=a0z (by omega);cases hl:ltB 0 (((a9b (Sc.MR.done l)).length:Nat):Int)
     ·by_cases hne:vs=[]
      ·subst hne;simp only[NF,show b9Q (txt [])=some []from rfl,show eqS [] []=true by simp[eqS],z0,z1,k3]
      ·exfalso;have:=c6E h hne g8 hr;cases h with
       | nil=>exact hne rfl
       | cons h1 _ =>
        obtain⟨s,u,rfl,_⟩:=h1.h;cases l with
        | nil=>simp[Sc.KT]at this
        | cons t l=>rw[X6 (by simp[a9b])]at hl;cases hl
     ·simp only[NF,z0,z1,k3]
 ·rfl
end Go.Proofs.YtjhfloacokgdiaaGreatDoor
namespace Go.Proofs.YtjhfloacokgdiaaGreatDoor
open Go Go.Vm
theorem c7V (s:Str):E env (.call 3 [.str s]) []=some (.ret (.bool true) []):=b36.ok (b37 s)
end Go.Proofs.YtjhfloacokgdiaaGreatDoor
