/- Texts of ParseParens, joined. -/
import Derived.Test.YtjhfloacokgdiaaGreatDoorParseParensJ24
set_option maxRecDepth 100000
set_option maxHeartbeats 20000000
set_option linter.unusedSimpArgs false
set_option linter.unusedVariables false
set_option linter.unusedSectionVars false
namespace Go.Proofs.YtjhfloacokgdiaaGreatDoor
open Go Go.Vm
def NSt (r:List WK):Prop:=nx r 9 [101,108,115,101]=false
abbrev RSt:=RX 30 NSt d9.I7
def RBl (x:Nod)(w:List WK):Prop:=RX 34 T1 d9.G8 x w /\ ∃r,w =(8,[123])::r
def SH (x:Nod)(w:List WK):Prop:=RSt x w/\(∀r,nx (w++r) 8 [125]=false) /\ ∀r,nx (w++r) 9 [101,108,115,101]=false
theorem stmts_lp {n:Nat}{size:Int}{l:List Tok}(hl:l.length<=3000){rest:List WK}:∀{xs:List Nod} {vs:List (List WK)},a1e SH xs vs -> ∀(m k:Nat) (acc:List Nod),k<=l.length->kt (l.drop k)=vs.flatten ++((8,[125])::rest)->200000+40*(l.length-k)+30<=n->xs.length<m->acc.length+xs.length<=9000 -> ∃ys,Q9 n (d9.fs n) size l m acc k=some (.brk (acc++ys,((k+(vs.flatten.length+1):Nat):Int)))/\ers ys=ers xs:=by
 intro xs vs hv
 induction hv with
 | nil =>
  intro m k acc hk K hn hm ha
  obtain⟨m,rfl⟩:∃q,m=q+1:=⟨m-1,by omega⟩
  have K:kt (l.drop k) =(8,[125])::rest:=K
  refine⟨[],?_,rfl⟩
  rw[Q9.eq_2,I6 hl hk,isY K a0V]
  simp
 | @cons x w xs vs hg hv ih =>
  intro m k acc hk K hn hm ha
  simp only[List.length_cons]at hm ha
  obtain⟨m,rfl⟩:∃q,m=q+1:=⟨m-1,by omega⟩
  rw[List.flatten_cons,List.append_assoc]at K
  have hk2:=Q6 K hk
  have K2:=M5 K
  have hst:NSt (vs.flatten ++((8,[125])::rest)):=by
   cases hv with
   | nil=>rfl
   | @cons x2 w2 xs vs h2 h3=>rw[List.flatten_cons,List.append_assoc];exact h2.2.2 _
  obtain⟨y,e,he⟩:=hg.1 hl hk K hst (show _<=n by omega) (size:=size)
  obtain⟨ys,e2,he2⟩:=ih m _ (acc++[y]) hk2 K2 (by omega) (by omega) (by simp only[List.length_append,List.length_cons,List.length_nil];omega)
  refine⟨y::ys,?_,a0T he he2⟩
  rw[Q9.eq_2,I6 hl hk,isF K (hg.2.1 _)]
  simp only[NF]
  rw[e]
  simp only[NF]
  rw[a1z (by omega) (by simp) (by omega)]
  simp only[NF]
  rw[e2,List.append_assoc]
  have hq:k+w.length+(vs.flatten.length+1)=k+((w::vs).flatten.length+1):=by rw[List.flatten_cons];simp only[List.length_append];omega
  rw[hq];rfl
theorem c0z {xs:List Nod}{vs:List (List WK)}(h:a1e SH xs vs)(hx:xs.length<=8000){n k:Nat}{size:Int}{l:List Tok}(hl:l.length<=3000){rest:List WK}(hk:k<=l.length)(K:kt (l.drop k)=vs.flatten ++((8,[125])::rest))(hn:200000+40*(l.length-k)+32<=n):∃ys,(d9.fs n).J2 l k size=some (.ok (ys,((k+(vs.flatten.length+1):Nat):Int)))/\ers ys=ers xs/\ys.length<=10000:=by
 obtain⟨n,rfl⟩:∃q,n=q+1:=⟨n-1,by omega⟩
 obtain⟨ys,e,he⟩:=stmts_lp (size:=size) (n:=n) hl h n k [] hk K (by omega) (by omega) (by simp only[List.length_nil];omega)
 have hyl:=a3Y he
 refine⟨ys,?_,he,by omega⟩
 show U6 n (d9.fs n) l k size=_
 unfold U6
 rw[e]
 simp only[NF,List.nil_append]
theorem rb_block {xs:List Nod}{vs:List (List WK)}{a:Int}(h:a1e SH xs vs)(hx:xs.length<=8000):RBl ⟨20,[],0,zT,[],xs,a⟩ ((8,[123]) ::(vs.flatten++[(8,[125])])):=by
 refine⟨?_,_,rfl⟩
 intro l size n k rest hl hk K hr hn
 obtain⟨n,rfl⟩:∃q,n=q+1:=⟨n-1,by omega⟩
 have K:kt (l.drop k) =(8,[123]) ::(vs.flatten ++((8,[125])::rest)):=by rw[K];simp
 have hk1:=J7 K
 obtain⟨ys,e,he,_⟩:=c0z (size:=size) (n:=n) h hx hl hk1 (N9 K) (by omega)
 refine⟨⟨20,[],0,zT,[],ys,M8 l size k⟩,?_,er5 he⟩
 have hq:k+1+(vs.flatten.length+1)=k+((8,[123]) ::(vs.flatten++[(8,[125])]):List WK).length:=by simp only[List.length_append,List.length_cons,List.length_nil];omega
 show a0g n (d9.fs n) l k size=_
 unfold a0g
 simp only[NF,Q0 hl hk,Y2 hl hk,isY K a0V]
 rw[e,hq]
 simp only[NF]
theorem ra_clos {V:Int->Str->Prop}{ps ss:List Nod}{t:Typ}{us vs:List (List WK)}{a b:Int}(ht:t=uT∨GT V false t)(hz:t.sz<=40000)(h:a1e (RM V) ps us)(hp:ps.length<=8000)(g:a1e SH ss vs)(hs:ss.length<=8000):RA ⟨63,[],0,t,[],ps++[⟨20,[],0,zT,[],ss,b⟩],a⟩ ((8,[123]) ::(cw us ++(rsw t ++((9,[105,110]) ::(vs.flatten++[(8,[125])]))))):=by
 intro l size n k rest hl hk K hr hn
 obtain⟨n,rfl⟩:∃q,n=q+1:=⟨n-1,by omega⟩
 obtain⟨p,rfl⟩:∃q,n=q+1:=⟨n-1,by omega⟩
 have K:kt (l.drop k) =(8,[123]) ::(cw us ++(rsw t ++((9,[105,110]) ::(vs.flatten ++((8,[125])::rest))))):=by rw[K];simp
 have hk1:=J7 K
 have K1:=N9 K
 obtain⟨ys,e1,he1,hy1⟩:=c5g (size:=size) (n:=p) h hp hl hk1 K1 (by omega)
 have hk2:=Q6 K1 hk1
 have K2:=M5 K1
 have e2:=c5h (size:=size) (n:=p) ht hz hl hk2 K2 ⟨rfl,.inl rfl⟩ rfl (by omega)
 have hk3:=Q6 K2 hk2
 have K3:=M5 K2
 have hk4:=J7 K3
 have K4:=N9 K3
 obtain⟨zs,e3,he3,_⟩:=c0z (size:=size) (n:=p) g hs hl hk4 K4 (by omega)
 refine⟨⟨63,[],0,t,[],ys++[⟨20,[],0,zT,[],zs,M8 l size k⟩],M8 l size k⟩,?_,er5 (c3j he1 (a9M (er5 he3)))⟩
 have hq:k+1+(cw us).length+(rsw t).length+1+(vs.flatten.length+1)=k+((8,[123]) ::(cw us ++(rsw t ++((9,[105,110]) ::(vs.flatten++[(8,[125])])))):List WK).length:=by simp only[List.length_append,List.length_cons,List.length_nil];omega
 have ec:(d9.fs (p+1)).O3 l k size=some (.ok (⟨63,[],0,t,[],ys++[⟨20,[],0,zT,[],zs,M8 l size k⟩],M8 l size k⟩,((k+1+(cw us).length+(rsw t).length+1+(vs.flatten.length+1):Nat):Int))):=by
  show Y7 p (d9.fs p) l k size=_
  unfold Y7
  simp only[NF,Q0 hl hk,Y2 hl hk,isY K a0V]
  rw[e1]
  simp only[NF]
  rw[e2]
  simp only[NF,a2a hl hk3,isY K3 a0V]
  rw[e3]
  simp only[NF]
  rw[a1z (by omega) (by simp) (by omega)]
  simp only[NF]
 show A7 (p+1) (d9.fs (p+1)) l k size=_
 unfold A7
 simp (decide:=true) (disch:=omega) only[NF,Q0 hl hk,a0n hl hk,a0U hl hk,I6 hl hk,a1s hl hk,a0e K,a0o K,a2M,a3u,BC]
 rw[ec,hq]
 simp only[NF]
theorem rd_one {p k q:Nat}{op size:Int}{l:List Tok}(hl:l.length<=3000)(hk:k<=l.length)(hk1:k+1<=l.length){z:Nod}(e:(d9.fs p).G8 l ((k+1:Nat):Int) size=some (.ok (z,(q:Int)))):(d9.fs (p+1)).R8 op l k size=some (.ok ([z],M8 l size k,(q:Int))):=by
 show a0w p (d9.fs p) op l k size=_
 unfold a0w
 rw[Q0 hl hk,F9 (by omega),e]
 simp only[NF]
theorem rl_letu {s:Str}{x:Nod}{w:List WK}{a:Int}(h:RE x w):RX 26 T1 d9.I9 ⟨21,s,0,zT,[],[x],a⟩ ((9,[108,101,116]) ::(1,s) ::(8,[61]) ::(w++[(8,[59])])):=by
 intro l size n k rest hl hk K hr hn
 obtain⟨n,rfl⟩:∃q,n=q+1:=⟨n-1,by omega⟩
 have K:kt (l.drop k) =(9,[108,101,116]) ::(1,s) ::(8,[61]) ::(w ++((8,[59])::rest)):=by rw[K];simp
 have hk1:=J7 K
 have K1:=N9 K
 have hk2:=J7 K1
 have K2:=N9 K1
 have hk3:=J7 K2
 have K3:=N9 K2
 obtain⟨y,e,he⟩:=h hl hk3 K3 (a1B (.inr (.inr (.inl rfl)))) (show _<=n by omega) (size:=size)
 have hk6:=Q6 K3 hk3
 have K6:=M5 K3
 refine⟨⟨21,s,0,zT,[],[y],M8 l size k⟩,?_,er5 (a9M he)⟩
 have hq:k+1+1+1+w.length+1=k+(((9,[108,101,116]) ::(1,s) ::(8,[61]) ::(w++[(8,[59])])):List WK).length:=by simp only[List.length_append,List.length_cons,List.length_nil];omega
 show M0 n (d9.fs n) l k size=_
 unfold M0
 simp (decide:=true) (disch:=omega) only[NF,Q0 hl hk,a0n hl hk,a0U hl hk,I6 hl hk,a1s hl hk,a0e K,a0o K,a2M,a3u,BC,a5Y,a2a hl hk,a2o hl hk1,a0e K1,a2I K1,F9,I6 hl hk2,Y2 hl hk2,a0o K2]
 rw[e]
 simp only[NF,Y2 hl hk6,isY K6 a0V,hq]
theorem rl_lett {V:Int->Str->Prop}{t:Typ}(ht:GT V false t)(hz:t.sz<=40000){s:Str}{x:Nod}{w:List WK}{a:Int}(h:RE x w):RX 26 T1 d9.I9 ⟨21,s,0,t,[],[x],a⟩ ((9,[108,101,116]) ::(1,s) ::(8,[58]) ::(W t ++((8,[61]) ::(w++[(8,[59])])))):=by
 intro l size n k rest hl hk K hr hn
 obtain⟨n,rfl⟩:∃q,n=q+1:=⟨n-1,by omega⟩
 have K:kt (l.drop k) =(9,[108,101,116]) ::(1,s) ::(8,[58]) ::(W t ++((8,[61]) ::(w ++((8,[59])::rest)))):=by rw[K];simp
 have hk1:=J7 K
 have K1:=N9 K
 have hk2:=J7 K1
 have K2:=N9 K1
 have hk3:=J7 K2
 have K3:=N9 K2
 have et:=b2p (size:=size) (n:=n) ht hz (by omega) hl hk3 K3 ⟨rfl,.inl rfl⟩
 have hk4:=Q6 K3 hk3
 have K4:=M5 K3
 have hk5:=J7 K4
 have K5:=N9 K4
 obtain⟨y,e,he⟩:=h hl hk5 K5 (a1B (.inr (.inr (.inl rfl)))) (show _<=n by omega) (size:=size)
 have hk6:=Q6 K5 hk5
 have K6:=M5 K5
 refine⟨⟨21,s,0,t,[],[y],M8 l size k⟩,?_,er5 (a9M he)⟩
 have hq:k+1+1+1+(W t).length+1+w.length+1=k+(((9,[108,101,116]) ::(1,s) ::(8,[58]) ::(W t ++((8,[61]) ::(w++[(8,[59])])))):List WK).length:=by simp only[List.length_append,List.length_cons,List.length_nil];omega
 show M0 n (d9.fs n) l k size=_
 unfold M0
 simp (decide:=true) (disch:=omega) only[NF,Q0 hl hk,a0n hl hk,a0U hl hk,I6 hl hk,a1s hl hk,a0e K,a0o K,a2M,a3u,BC,a2a hl hk,a2o hl hk1,a0e K1,a2I K1,F9,I6 hl hk2,a0o K2]
 rw[et]
 simp (decide:=true) only[NF,a5Y,BC,I6 hl hk4,Y2 hl hk4,a0o K4,a3u]
 rw[e]
 simp only[NF,Y2 hl hk6,isY K6 a0V,hq,b9F]
theorem rl_varu {s:Str}{x:Nod}{w:List WK}{a:Int}(h:RE x w):RX 26 T1 d9.I9 ⟨21,s,1,zT,[],[x],a⟩ ((9,[118,97,114]) ::(1,s) ::(8,[61]) ::(w++[(8,[59])])):=by
 intro l size n k rest hl hk K hr hn
 obtain⟨n,rfl⟩:∃q,n=q+1:=⟨n-1,by omega⟩
 have K:kt (l.drop k) =(9,[118,97,114]) ::(1,s) ::(8,[61]) ::(w ++((8,[59])::rest)):=by rw[K];simp
 have hk1:=J7 K
 have K1:=N9 K
 have hk2:=J7 K1
 have K2:=N9 K1
 have hk3:=J7 K2
 have K3:=N9 K2
 obtain⟨y,e,he⟩:=h hl hk3 K3 (a1B (.inr (.inr (.inl rfl)))) (show _<=n by omega) (size:=size)
 have hk6:=Q6 K3 hk3
 have K6:=M5 K3
 refine⟨⟨21,s,1,zT,[],[y],M8 l size k⟩,?_,er5 (a9M he)⟩
 have hq:k+1+1+1+w.length+1=k+(((9,[118,97,114]) ::(1,s) ::(8,[61]) ::(w++[(8,[59])])):List WK).length:=by simp only[List.length_append,List.length_cons,List.length_nil];omega
 show M0 n (d9.fs n) l k size=_
 unfold M0
 simp (decide:=true) (disch:=omega) only[NF,Q0 hl hk,a0n hl hk,a0U hl hk,I6 hl hk,a1s hl hk,a0e K,a0o K,a2M,a3u,BC,a5Y,a2a hl hk,a2o hl hk1,a0e K1,a2I K1,F9,I6 hl hk2,Y2 hl hk2,a0o K2]
 rw[e]
 simp only[NF,Y2 hl hk6,isY K6 a0V,hq]
theorem rl_vart {V:Int->Str->Prop}{t:Typ}(ht:GT V false t)(hz:t.sz<=40000){s:Str}{x:Nod}{w:List WK}{a:Int}(h:RE x w):RX 26 T1 d9.I9 ⟨21,s,1,t,[],[x],a⟩ ((9,[118,97,114]) ::(1,s) ::(8,[58]) ::(W t ++((8,[61]) ::(w++[(8,[59])])))):=by
 intro l size n k rest hl hk K hr hn
 obtain⟨n,rfl⟩:∃q,n=q+1:=⟨n-1,by omega⟩
 have K:kt (l.drop k) =(9,[118,97,114]) ::(1,s) ::(8,[58]) ::(W t ++((8,[61]) ::(w ++((8,[59])::rest)))):=by rw[K];simp
 have hk1:=J7 K
 have K1:=N9 K
 have hk2:=J7 K1
 have K2:=N9 K1
 have hk3:=J7 K2
 have K3:=N9 K2
 have et:=b2p (size:=size) (n:=n) ht hz (by omega) hl hk3 K3 ⟨rfl,.inl rfl⟩
 have hk4:=Q6 K3 hk3
 have K4:=M5 K3
 have hk5:=J7 K4
 have K5:=N9 K4
 obtain⟨y,e,he⟩:=h hl hk5 K5 (a1B (.inr (.inr (.inl rfl)))) (show _<=n by omega) (size:=size)
 have hk6:=Q6 K5 hk5
 have K6:=M5 K5
 refine⟨⟨21,s,1,t,[],[y],M8 l size k⟩,?_,er5 (a9M he)⟩
 have hq:k+1+1+1+(W t).length+1+w.length+1=k+(((9,[118,97,114]) ::(1,s) ::(8,[58]) ::(W t ++((8,[61]) ::(w++[(8,[59])])))):List WK).length:=by simp only[List.length_append,List.length_cons,List.length_nil];omega
 show M0 n (d9.fs n) l k size=_
 unfold M0
 simp (decide:=true) (disch:=omega) only[NF,Q0 hl hk,a0n hl hk,a0U hl hk,I6 hl hk,a1s hl hk,a0e K,a0o K,a2M,a3u,BC,a2a hl hk,a2o hl hk1,a0e K1,a2I K1,F9,I6 hl hk2,a0o K2]
 rw[et]
 simp (decide:=true) only[NF,a5Y,BC,I6 hl hk4,Y2 hl hk4,a0o K4,a3u]
 rw[e]
 simp only[NF,Y2 hl hk6,isY K6 a0V,hq,b9F]
theorem rl_var0 {V:Int->Str->Prop}{t:Typ}(ht:GT V false t)(hz:t.sz<=40000){s:Str}{a:Int}:RX 26 T1 d9.I9 ⟨21,s,1,t,[],[],a⟩ ((9,[118,97,114]) ::(1,s) ::(8,[58]) ::(W t++[(8,[59])])):=by
 intro l size n k rest hl hk K hr hn
 obtain⟨n,rfl⟩:∃q,n=q+1:=⟨n-1,by omega⟩
 have K:kt (l.drop k) =(9,[118,97,114]) ::(1,s) ::(8,[58]) ::(W t ++((8,[59])::rest)):=by rw[K];simp
 have hk1:=J7 K
 have K1:=N9 K
 have hk2:=J7 K1
 have K2:=N9 K1
 have hk3:=J7 K2
 have K3:=N9 K2
 have et:=b2p (size:=size) (n:=n) ht hz (by omega) hl hk3 K3 ⟨rfl,.inl rfl⟩
 have hk4:=Q6 K3 hk3
 have K4:=M5 K3
 refine⟨⟨21,s,1,t,[],[],M8 l size k⟩,?_,rfl⟩
 have hq:k+1+1+1+(W t).length+1=k+(((9,[118,97,114]) ::(1,s) ::(8,[58]) ::(W t++[(8,[59])])):List WK).length:=by simp only[List.length_append,List.length_cons,List.length_nil];omega
 show M0 n (d9.fs n) l k size=_
 unfold M0
 simp (decide:=true) (disch:=omega) only[NF,Q0 hl hk,a0n hl hk,a0U hl hk,I6 hl hk,a1s hl hk,a0e K,a0o K,a2M,a3u,BC,a2a hl hk,a2o hl hk1,a0e K1,a2I K1,F9,I6 hl hk2,a0o K2]
 rw[et]
 simp (decide:=true) only[NF,a5Y,BC,I6 hl hk4,Y2 hl hk4,a0o K4,a3u,hq,b9F]
theorem rs_let {x:Nod}{w:List WK}(h:RX 26 T1 d9.I9 x ((9,[108,101,116])::w)):RSt x ((9,[108,101,116])::w):=by
 intro l size n k rest hl hk K hr hn
 obtain⟨n,rfl⟩:∃q,n=q+1:=⟨n-1,by omega⟩
 obtain⟨y,e,he⟩:=h hl hk K trivial (show _<=n by omega) (size:=size)
 have K:kt (l.drop k) =(9,[108,101,116]) ::(w++rest):=K
 refine⟨y,?_,he⟩
 show w9 n (d9.fs n) l k size=_
 unfold w9
 simp (decide:=true) (disch:=omega) only[NF,Q0 hl hk,a0n hl hk,a0e K,a2M,BC,a04 (show k<l.length from J7 K),a2I K,a6v,F9]
 rw[e]
 simp only[NF]
theorem c2z {x:Nod}{w:List WK}(h:RX 26 T1 d9.I9 x ((9,[118,97,114])::w)):RSt x ((9,[118,97,114])::w):=by
 intro l size n k rest hl hk K hr hn
 obtain⟨n,rfl⟩:∃q,n=q+1:=⟨n-1,by omega⟩
 obtain⟨y,e,he⟩:=h hl hk K trivial (show _<=n by omega) (size:=size)
 have K:kt (l.drop k) =(9,[118,97,114]) ::(w++rest):=K
 refine⟨y,?_,he⟩
 show w9 n (d9.fs n) l k size=_
 unfold w9
 simp (decide:=true) (disch:=omega) only[NF,Q0 hl hk,a0n hl hk,a0e K,a2M,BC,a04 (show k<l.length from J7 K),a2I K,a6v,F9]
 rw[e]
 simp only[NF]
theorem rs_if {x:Nod}{w:List WK}(h:RX 28 NSt d9.G9 x ((9,[105,102])::w)):RSt x ((9,[105,102])::w):=by
 intro l size n k rest hl hk K hr hn
 obtain⟨n,rfl⟩:∃q,n=q+1:=⟨n-1,by omega⟩
 obtain⟨y,e,he⟩:=h hl hk K hr (show _<=n by omega) (size:=size)
 have K:kt (l.drop k) =(9,[105,102]) ::(w++rest):=K
 refine⟨y,?_,he⟩
 show w9 n (d9.fs n) l k size=_
 unfold w9
 simp (decide:=true) (disch:=omega) only[NF,Q0 hl hk,a0n hl hk,a0e K,a2M,BC,a04 (show k<l.length from J7 K),a2I K,a6v,F9]
 rw[e]
 simp only[NF]
theorem rs_match {x:Nod}{w:List WK}(h:RX 26 T1 d9.O9 x ((9,[109,97,116,99,104])::w)):RSt x ((9,[109,97,116,99,104])::w):=by
 intro l size n k rest hl hk K hr hn
 obtain⟨n,rfl⟩:∃q,n=q+1:=⟨n-1,by omega⟩
 obtain⟨y,e,he⟩:=h hl hk K trivial (show _<=n by omega) (size:=size)
 have K:kt (l.drop k) =(9,[109,97,116,99,104]) ::(w++rest):=K
 refine⟨y,?_,he⟩
 show w9 n (d9.fs n) l k size=_
 unfold w9
 simp (decide:=true) (disch:=omega) only[NF,Q0 hl hk,a0n hl hk,a0e K,a2M,BC,a04 (show k<l.length from J7 K),a2I K,a6v,F9]
 rw[e]
 simp only[NF]
theorem rs_ret1 {x:Nod}{w:List WK}(h:RE x w)(hh:∀r,nx (w++r) 8 [59]=false)  {a:Int}:RSt ⟨28,[],0,zT,[],[x],a⟩ ((9,[114,101,116,117,114,110]) ::(w++[(8,[59])])):=by
 intro l size n k rest hl hk K hr hn
 obtain⟨n,rfl⟩:∃q,n=q+1:=⟨n-1,by omega⟩
 have K:kt (l.drop k) =(9,[114,101,116,117,114,110]) ::(w ++((8,[59])::rest)):=by rw[K];simp
 have hk1:=J7 K
 have K1:=N9 K
 obtain⟨y,e,he⟩:=h hl hk1 K1 (a1B (.inr (.inr (.inl rfl)))) (show _<=n by omega) (size:=size)
 have hk2:=Q6 K1 hk1
 have K2:=M5 K1
 have hq:k+1+w.length+1=k+(((9,[114,101,116,117,114,110]) ::(w++[(8,[59])])):List WK).length:=by simp only[List.length_append,List.length_cons,List.length_nil];omega
 refine⟨⟨28,[],0,zT,[],[y],M8 l size k⟩,?_,er5 (a9M he)⟩
 show w9 n (d9.fs n) l k size=_
 unfold w9
 simp (decide:=true) (disch:=omega) only[NF,Q0 hl hk,a0n hl hk,a0e K,a2M,BC,a04 (show k<l.length from J7 K),a2I K,a6v,F9,I6 hl hk1,isF K1 (hh _)]
 rw[e]
 simp only[NF,Y2 hl hk2,isY K2 a0V,hq]
theorem rs_throw {x:Nod}{w:List WK}(h:RE x w)  {a:Int}:RSt ⟨29,[],0,zT,[],[x],a⟩ ((9,[116,104,114,111,119]) ::(w++[(8,[59])])):=by
 intro l size n k rest hl hk K hr hn
 obtain⟨n,rfl⟩:∃q,n=q+1:=⟨n-1,by omega⟩
 have K:kt (l.drop k) =(9,[116,104,114,111,119]) ::(w ++((8,[59])::rest)):=by rw[K];simp
 have hk1:=J7 K
 have K1:=N9 K
 obtain⟨y,e,he⟩:=h hl hk1 K1 (a1B (.inr (.inr (.inl rfl)))) (show _<=n by omega) (size:=size)
 have hk2:=Q6 K1 hk1
 have K2:=M5 K1
 have hq:k+1+w.length+1=k+(((9,[116,104,114,111,119]) ::(w++[(8,[59])])):List WK).length:=by simp only[List.length_append,List.length_cons,List.length_nil];omega
 refine⟨⟨29,[],0,zT,[],[y],M8 l size k⟩,?_,er5 (a9M he)⟩
 show w9 n (d9.fs n) l k size=_
 unfold w9
 simp (decide:=true) (disch:=omega) only[NF,Q0 hl hk,a0n hl hk,a0e K,a2M,BC,a04 (show k<l.length from J7 K),a2I K,a6v,F9]
 rw[e]
 simp only[NF,Y2 hl hk2,isY K2 a0V,hq]
theorem rs_ret0  {a:Int}:RSt ⟨28,[],0,zT,[],[],a⟩ [(9,[114,101,116,117,114,110]),(8,[59])]:=by
 intro l size n k rest hl hk K hr hn
 obtain⟨n,rfl⟩:∃q,n=q+1:=⟨n-1,by omega⟩
 have K:kt (l.drop k) =(9,[114,101,116,117,114,110]) ::(8,[59])::rest:=by rw[K];simp
 have hk1:=J7 K
 have K1:=N9 K
 refine⟨⟨28,[],0,zT,[],[],M8 l size k⟩,?_,rfl⟩
 show w9 n (d9.fs n) l k size=_
 unfold w9
 simp (decide:=true) (disch:=omega) only[NF,Q0 hl hk,a0n hl hk,a0e K,a2M,BC,a04 (show k<l.length from J7 K),a2I K,a6v,F9,I6 hl hk1,isY K1 a0V]
 rfl
theorem rs_while {x b:Nod}{w v:List WK}(h:RE x w)(g:RBl b v){a:Int}:RSt ⟨25,[],0,zT,[],[x,b],a⟩ ((9,[119,104,105,108,101]) ::(w++v)):=by
 intro l size n k rest hl hk K hr hn
 obtain⟨n,rfl⟩:∃q,n=q+1:=⟨n-1,by omega⟩
 have K:kt (l.drop k) =(9,[119,104,105,108,101]) ::(w ++(v++rest)):=by rw[K];simp
 have hk1:=J7 K
 have K1:=N9 K
 obtain⟨g,q,rfl⟩:=g
 obtain⟨y,e,he⟩:=h hl hk1 K1 (a1B (.inr (.inr (.inr (.inl rfl))))) (show _<=n by omega) (size:=size)
 have hk2:=Q6 K1 hk1
 have K2:=M5 K1
 have hwl:0<((8,([123]:Str))::q:List WK).length:=by simp
 obtain⟨z,e2,he2⟩:=g hl hk2 K2 trivial (show _<=n by omega) (size:=size)
 have hq:k+1+w.length+((8,([123]:Str))::q:List WK).length=k+((9,[119,104,105,108,101]) ::(w ++((8,[123])::q)):List WK).length:=by simp only[List.length_append,List.length_cons,List.length_nil];omega
 refine⟨⟨25,[],0,zT,[],[y,z],M8 l size k⟩,?_,er5 (ers2 he he2)⟩
 show w9 n (d9.fs n) l k size=_
 unfold w9
 simp (decide:=true) (disch:=omega) only[NF,Q0 hl hk,a0n hl hk,a0e K,a2M,BC,a04 (show k<l.length from J7 K),a2I K,a6v,F9]
 rw[e]
 simp only[NF]
 rw[e2]
 simp only[NF]
 rw[a1z (by simp) (by simp) (by omega),hq]
 rfl
theorem rs_defer {b:Nod}{v:List WK}(g:RBl b v){a:Int}:RSt ⟨31,[],0,zT,[],[b],a⟩ ((9,[100,101,102,101,114])::v):=by
 intro l size n k rest hl hk K hr hn
 obtain⟨n,rfl⟩:∃q,n=q+1:=⟨n-1,by omega⟩
 have K:kt (l.drop k) =(9,[100,101,102,101,114]) ::(v++rest):=by rw[K];simp
 have hk1:=J7 K
 have K1:=N9 K
 obtain⟨p,rfl⟩:∃q,n=q+1:=⟨n-1,by omega⟩
 obtain⟨z,e2,he2⟩:=g.1 hl hk1 K1 trivial (show _<=p by omega) (size:=size)
 have e1:=rd_one (op:=31) hl hk (J7 K) e2
 have hq:k+1+v.length=k+(((9,[100,101,102,101,114])::v):List WK).length:=by simp only[List.length_append,List.length_cons,List.length_nil];omega
 refine⟨⟨31,[],0,zT,[],[z],M8 l size k⟩,?_,er5 (a9M he2)⟩
 show w9 (p+1) (d9.fs (p+1)) l k size=_
 unfold w9
 simp (decide:=true) (disch:=omega) only[NF,Q0 hl hk,a0n hl hk,a0e K,a2M,BC,a04 (show k<l.length from J7 K),a2I K,a6v,F9]
 rw[e1]
 simp only[NF,hq]
theorem rs_do {x b:Nod}{w v:List WK}{s:Str}(h:RBl x w)(g:RBl b v){a:Int}:RSt ⟨30,s,0,zT,[],[x,b],a⟩ ((9,[100,111]) ::(w ++((9,[99,97,116,99,104]) ::(1,s)::v))):=by
 intro l size n k rest hl hk K hr hn
 obtain⟨n,rfl⟩:∃q,n=q+1:=⟨n-1,by omega⟩
 have K:kt (l.drop k) =(9,[100,111]) ::(w ++((9,[99,97,116,99,104]) ::(1,s) ::(v++rest))):=by rw[K];simp
 have hk1:=J7 K
 have K1:=N9 K
 obtain⟨p,rfl⟩:∃q,n=q+1:=⟨n-1,by omega⟩
 obtain⟨y,e,he⟩:=h.1 hl hk1 K1 trivial (show _<=p by omega) (size:=size)
 have e1:=rd_one (op:=30) hl hk (J7 K) e
 have hk2:=Q6 K1 hk1
 have K2:=M5 K1
 have hk3:=J7 K2
 have K3:=N9 K2
 have hk4:=J7 K3
 have K4:=N9 K3
 obtain⟨z,e2,he2⟩:=g.1 hl hk4 K4 trivial (show _<=p+1 by omega) (size:=size)
 have hq:k+1+w.length+1+1+v.length=k+(((9,[100,111]) ::(w ++((9,[99,97,116,99,104]) ::(1,s)::v))):List WK).length:=by simp only[List.length_append,List.length_cons,List.length_nil];omega
 refine⟨⟨30,s,0,zT,[],[y,z],M8 l size k⟩,?_,er5 (ers2 he he2)⟩
 show w9 (p+1) (d9.fs (p+1)) l k size=_
 unfold w9
 simp (decide:=true) (disch:=omega) only[NF,Q0 hl hk,a0n hl hk,a0e K,a2M,BC,a04 (show k<l.length from J7 K),a2I K,a6v,F9]
 rw[e1]
 simp (decide:=true) (disch:=omega) only[NF,a2a hl hk2,a0o K2,a3u,BC,a2o hl hk3,a0e K3,a2M,a2I K3,F9]
 rw[e2]
 simp only[NF]
 rw[a1z (by simp) (by simp) (by omega),hq]
 rfl
def KWL:List Str:=[[108,101,116],[118,97,114],[105,102],[109,97,116,99,104],[100,101,102,101,114],[119,104,105,108,101],[114,101,116,117,114,110],[116,104,114,111,119],[100,111]]
def EH (w:List WK):Prop:=∃p r,w=p::r/\(p.1≠9∨p.2 ∉ KWL)
theorem c4e {l:List Tok}(hl:l.length<=3000){k:Nat}(hk:k<=l.length){size:Int}{p:WK}{r:List WK}(K:kt (l.drop k)=p::r)(h:p.1≠9∨p.2 ∉ KWL):∃u,u ∉ KWL/\((o8 0 9 [] l k size).bind fun r4=>cond r4 ((idx' l (k:Int)).bind fun x5=>some x5.text) (some []))=some u:=by
 have hk1:=J7 K
 by_cases h9:p.1=9
 ·refine⟨p.2,h.resolve_left fun g=>g h9,?_⟩
  rw[a0n hl hk,ikY K (show nk (p::r) 9=true from decide_eq_true h9)]
  simp only[NF,a04 (show k<l.length from hk1),a2I K]
 ·refine⟨[],by decide,?_⟩
  rw[a0n hl hk,ikF K (show nk (p::r) 9=false from decide_eq_false h9)]
  simp only[NF]
theorem rs_sole {x:Nod}{w:List WK}{a:Int}(h:RE x w)(hh:EH w):RSt ⟨23,[],0,zT,[],[x],a⟩ (w++[(8,[59])]):=by
 intro l size n k rest hl hk K hr hn
 obtain⟨n,rfl⟩:∃q,n=q+1:=⟨n-1,by omega⟩
 have K:kt (l.drop k)=w ++((8,[59])::rest):=by rw[K];simp
 obtain⟨y,e,he⟩:=h hl hk K (a1B (.inr (.inr (.inl rfl)))) (show _<=n by omega) (size:=size)
 have hk1:=Q6 K hk
 have K1:=M5 K
 obtain⟨p,r,rfl,hp⟩:=hh
 obtain⟨u,hu,eu⟩:=c4e (size:=size) hl hk (show _=p ::(r ++((8,[59])::rest))from K) hp
 simp only[KWL,List.mem_cons,List.not_mem_nil,or_false,not_or]at hu
 obtain⟨u1,u2,u3,u4,u5,u6,u7,u8,u9⟩:=hu
 refine⟨⟨23,[],0,zT,[],[y],y.at_⟩,?_,er5 (a9M he)⟩
 have hq:k+(p::r).length+1=k+(p::r++[(8,[59])]).length:=by simp only[List.length_append,List.length_cons,List.length_nil];omega
 show w9 n (d9.fs n) l k size=_
 unfold w9
 rw[eu]
 simp only[NF,a6v,decide_eq_false u1,decide_eq_false u2,decide_eq_false u3,decide_eq_false u4,decide_eq_false u5,decide_eq_false u6,decide_eq_false u7,decide_eq_false u8,decide_eq_false u9]
 rw[e]
 simp only[NF,a1s hl hk1,isF (kd:=8) (s:=[61]) K1 rfl,Y2 hl hk1,isY K1 a0V,hq]
theorem c2q {n:Nat}{x:Nod}(h:PLC x):∀(m:Nat) (y:Nod),y.er=x.er->x.sz<m -> ∃z,a09 n m y=some z/\z.op=54:=by
 induction h with
 | @nm x hx =>
  intro m y he hm
  obtain⟨m,rfl⟩:∃q,m=q+1:=⟨m-1,by omega⟩
  have h1:=(a7U he).1
  refine⟨y,?_,h1.trans hx⟩
  rw[a09.eq_2,a1G (by rw[h1,hx];decide)]
  rfl
 | @fld s n a t ts x hx ih =>
  intro m y he hm
  obtain⟨m,rfl⟩:∃q,m=q+1:=⟨m-1,by omega⟩
  obtain⟨h1,_,_,_,_,h6⟩:=a7U he
  rw[nsz,a3X]at hm
  rcases hy:y.l with _ |⟨w,_ |⟨w2,r⟩⟩
  ·rw[hy]at h6;simp[ers]at h6
  ·rw[hy]at h6
   have h7:w.er=x.er:=by simpa [ers]using h6
   rw[a09.eq_2,a0C h1]
   simp only[NF,hy,show idx' [w] 0=some w from a0S (l:=[w]) (i:=0) Nat.zero_lt_one]
   exact ih m w h7 (by omega)
  ·rw[hy]at h6;simp[ers]at h6
theorem c5p {x y:Nod}{w v:List WK}{a:Int}(h:RE x w)(hp:PLC x)(hz:x.sz<=100000)(g:RE y v)(hh:EH w):RSt ⟨22,[],0,zT,[],[x,y],a⟩ (w ++((8,[61]) ::(v++[(8,[59])]))):=by
 intro l size n k rest hl hk K hr hn
 obtain⟨n,rfl⟩:∃q,n=q+1:=⟨n-1,by omega⟩
 have K:kt (l.drop k)=w ++((8,[61]) ::(v ++((8,[59])::rest))):=by rw[K];simp
 obtain⟨y1,e,he⟩:=h hl hk K (a1B (.inr (.inr (.inr (.inr rfl))))) (show _<=n by omega) (size:=size)
 have hk1:=Q6 K hk
 have K1:=M5 K
 have hk2:=J7 K1
 have K2:=N9 K1
 obtain⟨y2,e2,he2⟩:=g hl hk2 K2 (a1B (.inr (.inr (.inl rfl)))) (show _<=n by omega) (size:=size)
 have hk3:=Q6 K2 hk2
 have K3:=M5 K2
 obtain⟨z,ez,hz2⟩:=c2q (n:=n) hp n y1 he (by omega)
 have ep:a3f n y1=some true:=by unfold a3f;rw[ez];simp only[NF];rw[a0C hz2]
 obtain⟨p,r,rfl,hp⟩:=hh
 obtain⟨u,hu,eu⟩:=c4e (size:=size) hl hk (show _=p ::(r ++((8,[61]) ::(v ++((8,[59])::rest))))from K) hp
 simp only[KWL,List.mem_cons,List.not_mem_nil,or_false,not_or]at hu
 obtain⟨u1,u2,u3,u4,u5,u6,u7,u8,u9⟩:=hu
 refine⟨⟨22,[],0,zT,[],[y1,y2],y1.at_⟩,?_,er5 (ers2 he he2)⟩
 have hq:k+(p::r).length+1+v.length+1=k+(p::r ++((8,[61]) ::(v++[(8,[59])]))).length:=by simp only[List.length_append,List.length_cons,List.length_nil];omega
 show w9 n (d9.fs n) l k size=_
 unfold w9
 rw[eu]
 simp only[NF,a6v,decide_eq_false u1,decide_eq_false u2,decide_eq_false u3,decide_eq_false u4,decide_eq_false u5,decide_eq_false u6,decide_eq_false u7,decide_eq_false u8,decide_eq_false u9]
 rw[e]
 simp only[NF,a1s hl hk1,isY K1 a0V,ep,F9 (show k+(p::r).length<=1000000000000 by omega)]
 rw[e2]
 simp only[NF]
 rw[a1z (by simp) (by simp) (by omega)]
 simp only[NF,Y2 hl hk3,isY K3 a0V,hq]
 rfl
abbrev RC:=RX 28 NSt d9.G9
theorem rc_if2 {x b:Nod}{w v:List WK}{a:Int}(h:RE x w)(g:RBl b v):RC ⟨24,[],0,zT,[],[x,b],a⟩ ((9,[105,102]) ::(w++v)):=by
 obtain⟨g,q,rfl⟩:=g
 intro l size n k rest hl hk K hr hn
 obtain⟨n,rfl⟩:∃q,n=q+1:=⟨n-1,by omega⟩
 have K:kt (l.drop k) =(9,[105,102]) ::(w ++((8,[123])::q++rest)):=by rw[K];simp
 have hk1:=J7 K
 have K1:=N9 K
 obtain⟨y,e,he⟩:=h hl hk1 K1 (a1B (.inr (.inr (.inr (.inl rfl))))) (show _<=n by omega) (size:=size)
 have hk2:=Q6 K1 hk1
 have K2:=M5 K1
 obtain⟨z,e2,he2⟩:=g hl hk2 K2 trivial (show _<=n by omega) (size:=size)
 have hk3:=Q6 K2 hk2
 have K3:=M5 K2
 refine⟨⟨24,[],0,zT,[],[y,z],M8 l size k⟩,?_,er5 (ers2 he he2)⟩
 have hq:k+1+w.length+((8,([123]:Str))::q:List WK).length=k+((9,[105,102]) ::(w ++((8,[123])::q)):List WK).length:=by simp only[List.length_append,List.length_cons,List.length_nil];omega
 show L8 n (d9.fs n) l k size=_
 unfold L8
 simp only[NF,Q0 hl hk,a2a hl hk,isY K a0V]
 rw[e]
 simp only[NF]
 rw[e2]
 simp only[NF]
 rw[a1z (by simp) (by simp) (by omega)]
 simp only[NF,a0U hl hk3,isF K3 hr]
 rw[hq]
 rfl
theorem rc_if3 {x b c:Nod}{w v u:List WK}{a:Int}(h:RE x w)(g:RBl b v)(f:RBl c u):RC ⟨24,[],0,zT,[],[x,b,c],a⟩ ((9,[105,102]) ::(w ++(v ++((9,[101,108,115,101])::u)))):=by
 obtain⟨g,q,rfl⟩:=g
 obtain⟨f,q2,rfl⟩:=f
 intro l size n k rest hl hk K hr hn
 obtain⟨n,rfl⟩:∃q,n=q+1:=⟨n-1,by omega⟩
 have K:kt (l.drop k) =(9,[105,102]) ::(w ++((8,[123])::q ++((9,[101,108,115,101]) ::((8,[123])::q2++rest)))):=by rw[K];simp
 have hk1:=J7 K
 have K1:=N9 K
 obtain⟨y,e,he⟩:=h hl hk1 K1 (a1B (.inr (.inr (.inr (.inl rfl))))) (show _<=n by omega) (size:=size)
 have hk2:=Q6 K1 hk1
 have K2:=M5 K1
 obtain⟨z,e2,he2⟩:=g hl hk2 K2 trivial (show _<=n by omega) (size:=size)
 have hk3:=Q6 K2 hk2
 have K3:=M5 K2
 have hk4:=J7 K3
 have K4:=N9 K3
 obtain⟨z2,e4,he4⟩:=f hl hk4 K4 trivial (show _<=n by omega) (size:=size)
 refine⟨⟨24,[],0,zT,[],[y,z,z2],M8 l size k⟩,?_,er5 (a0T he (ers2 he2 he4))⟩
 have hq:k+1+w.length+((8,([123]:Str))::q:List WK).length+1+((8,([123]:Str))::q2:List WK).length=k+((9,[105,102]) ::(w ++((8,[123])::q ++((9,[101,108,115,101]) ::(8,[123])::q2))):List WK).length:=by simp only[List.length_append,List.length_cons,List.length_nil];omega
 show L8 n (d9.fs n) l k size=_
 unfold L8
 simp only[NF,Q0 hl hk,a2a hl hk,isY K a0V]
 rw[e]
 simp only[NF]
 rw[e2]
 simp only[NF]
 rw[a1z (by simp) (by simp) (by omega)]
 simp only[NF,a0U hl hk3,isY K3 a0V,a1s hl hk4,isF (kd:=9) (s:=[105,102]) K4 rfl]
 rw[e4]
 simp only[NF]
 rw[a1z (by simp) (by simp) (by omega),hq]
 rfl
theorem rc_if4 {x b c:Nod}{w v u:List WK}{a:Int}(h:RE x w)(g:RBl b v)(f:RC c ((9,[105,102])::u)):RC ⟨24,[],0,zT,[],[x,b,c],a⟩ ((9,[105,102]) ::(w ++(v ++((9,[101,108,115,101]) ::(9,[105,102])::u)))):=by
 obtain⟨g,q,rfl⟩:=g
 intro l size n k rest hl hk K hr hn
 obtain⟨n,rfl⟩:∃q,n=q+1:=⟨n-1,by omega⟩
 have K:kt (l.drop k) =(9,[105,102]) ::(w ++((8,[123])::q ++((9,[101,108,115,101]) ::((9,[105,102])::u++rest)))):=by rw[K];simp
 have hk1:=J7 K
 have K1:=N9 K
 obtain⟨y,e,he⟩:=h hl hk1 K1 (a1B (.inr (.inr (.inr (.inl rfl))))) (show _<=n by omega) (size:=size)
 have hk2:=Q6 K1 hk1
 have K2:=M5 K1
 obtain⟨z,e2,he2⟩:=g hl hk2 K2 trivial (show _<=n by omega) (size:=size)
 have hk3:=Q6 K2 hk2
 have K3:=M5 K2
 have hk4:=J7 K3
 have K4:=N9 K3
 obtain⟨z2,e4,he4⟩:=f hl hk4 K4 hr (show _<=n by omega) (size:=size)
 refine⟨⟨24,[],0,zT,[],[y,z,z2],M8 l size k⟩,?_,er5 (a0T he (ers2 he2 he4))⟩
 have hq:k+1+w.length+((8,([123]:Str))::q:List WK).length+1+((9,([105,102]:Str))::u:List WK).length=k+((9,[105,102]) ::(w ++((8,[123])::q ++((9,[101,108,115,101]) ::(9,[105,102])::u))):List WK).length:=by simp only[List.length_append,List.length_cons,List.length_nil];omega
 show L8 n (d9.fs n) l k size=_
 unfold L8
 simp only[NF,Q0 hl hk,a2a hl hk,isY K a0V]
 rw[e]
 simp only[NF]
 rw[e2]
 simp only[NF]
 rw[a1z (by simp) (by simp) (by omega)]
 simp only[NF,a0U hl hk3,isY K3 a0V,a1s hl hk4,isY (kd:=9) (s:=[105,102]) K4 rfl]
 rw[e4]
 simp only[NF]
 rw[a1z (by simp) (by simp) (by omega),hq]
 rfl
def RAm (x:Nod)(w:List WK):Prop:=∃p b u v a,x =⟨27,[],0,zT,[],[p,b],a⟩/\RT p u/\RBl b v/\w =(9,[99,97,115,101]) ::(u++v)
theorem match_lp {n:Nat}{size:Int}{l:List Tok}(hl:l.length<=3000){rest:List WK}:∀{xs:List Nod} {vs:List (List WK)},a1e RAm xs vs -> ∀(m k:Nat) (acc:List Nod),k<=l.length->kt (l.drop k)=vs.flatten ++((8,[125])::rest)->200000+40*(l.length-k)<=n->xs.length<m->acc.length+xs.length<=9000 -> ∃ys,U3 n (d9.fs n) size l m k acc=some (.brk (((k+vs.flatten.length:Nat):Int),acc++ys))/\ers ys=ers xs:=by
 intro xs vs hv
 induction hv with
 | nil =>
  intro m k acc hk K hn hm ha
  obtain⟨m,rfl⟩:∃q,m=q+1:=⟨m-1,by omega⟩
  have K:kt (l.drop k) =(8,[125])::rest:=K
  refine⟨[],?_,rfl⟩
  rw[U3.eq_2,a1s hl hk,isF (kd:=9) (s:=[99,97,115,101]) K rfl]
  simp
 | @cons x w xs vs hg hv ih =>
  intro m k acc hk K hn hm ha
  simp only[List.length_cons]at hm ha
  obtain⟨m,rfl⟩:∃q,m=q+1:=⟨m-1,by omega⟩
  obtain⟨p,b,u,v,a,rfl,h1,⟨h2,q,rfl⟩,rfl⟩:=hg
  have K:kt (l.drop k) =(9,[99,97,115,101]) ::(u ++((8,[123])::q ++(vs.flatten ++((8,[125])::rest)))):=by rw[K];simp
  have hk1:=J7 K
  have K1:=N9 K
  obtain⟨y,e,he⟩:=rt_read h1 (size:=size) (n:=n) hl hk1 K1 rfl (by omega)
  have hk2:=Q6 K1 hk1
  have K2:=M5 K1
  obtain⟨z,e2,he2⟩:=h2 hl hk2 K2 trivial (show _<=n by omega) (size:=size)
  have hk3:=Q6 K2 hk2
  have K3:=M5 K2
  obtain⟨ys,e3,he3⟩:=ih m _ (acc++[⟨27,[],0,zT,[],[y,z],M8 l size k⟩]) hk3 K3 (by omega) (by omega) (by simp only[List.length_append,List.length_cons,List.length_nil];omega)
  refine⟨⟨27,[],0,zT,[],[y,z],M8 l size k⟩::ys,?_,a0T (er5 (ers2 he he2)) he3⟩
  rw[U3.eq_2,a1s hl hk,isY K a0V]
  simp only[NF,Q0 hl hk,F9 (show k<=1000000000000 by omega)]
  rw[e]
  simp only[NF]
  rw[e2]
  simp only[NF]
  rw[a1z (by simp) (by simp) (by omega)]
  simp only[NF]
  rw[a1z (by omega) (by simp) (by omega)]
  simp only[NF]
  have e3:U3 n (d9.fs n) size l m ((k+1+u.length+((8,([123]:Str))::q:List WK).length:Nat):Int) (acc++[⟨27,[],0,zT,[],[y]++[z],M8 l size k⟩])=_:=e3
  rw[e3,List.append_assoc]
  have hq:k+1+u.length+((8,([123]:Str))::q:List WK).length+vs.flatten.length=k+(((9,[99,97,115,101]) ::(u ++((8,[123])::q)))::vs:List (List WK)).flatten.length:=by simp only[List.flatten_cons,List.length_append,List.length_cons];omega
  rw[hq];rfl
theorem rm_match {x:Nod}{w:List WK}{xs:List Nod}{vs:List (List WK)}{a:Int}(h:RE x w)(g:a1e RAm xs vs)(hx:xs.length<=8000):RX 26 T1 d9.O9 ⟨26,[],0,zT,[],x::xs,a⟩ ((9,[109,97,116,99,104]) ::(w ++((8,[123]) ::(vs.flatten++[(8,[125])])))):=by
 intro l size n k rest hl hk K hr hn
 obtain⟨n,rfl⟩:∃q,n=q+1:=⟨n-1,by omega⟩
 have K:kt (l.drop k) =(9,[109,97,116,99,104]) ::(w ++((8,[123]) ::(vs.flatten ++((8,[125])::rest)))):=by rw[K];simp
 have hk1:=J7 K
 have K1:=N9 K
 obtain⟨y,e,he⟩:=h hl hk1 K1 (a1B (.inr (.inr (.inr (.inl rfl))))) (show _<=n by omega) (size:=size)
 have hk2:=Q6 K1 hk1
 have K2:=M5 K1
 have hk3:=J7 K2
 have K3:=N9 K2
 obtain⟨ys,e2,he2⟩:=match_lp (size:=size) (n:=n) hl g n _ [y] hk3 K3 (by omega) (by omega) (by simp only[List.length_cons,List.length_nil];omega)
 have hk4:=Q6 K3 hk3
 have K4:=M5 K3
 refine⟨⟨26,[],0,zT,[],y::ys,M8 l size k⟩,?_,er5 (a0T he he2)⟩
 have hq:k+1+w.length+1+vs.flatten.length+1=k+((9,[109,97,116,99,104]) ::(w ++((8,[123]) ::(vs.flatten++[(8,[125])]))):List WK).length:=by simp only[List.length_append,List.length_cons,List.length_nil];omega
 show a0h n (d9.fs n) l k size=_
 unfold a0h
 simp only[NF,Q0 hl hk,a2a hl hk,isY K a0V]
 rw[e]
 simp only[NF,Y2 hl hk2,isY K2 a0V]
 rw[e2]
 simp only[NF,Q0 hl hk4,a0U hl hk4,isF (kd:=9) (s:=[100,101,102,97,117,108,116]) K4 rfl,Y2 hl hk4,isY K4 a0V,hq]
 rfl
end Go.Proofs.YtjhfloacokgdiaaGreatDoor
namespace Go.Proofs.YtjhfloacokgdiaaGreatDoor
open Go Go.Vm
theorem a1F {y:Nod}{o:Int}{s:Str}{n:Int}{t:Typ}{ts:List Typ}{l:List Nod}{a:Int}(h:y.er =(⟨o,s,n,t,ts,l,a⟩:Nod).er):∃l' a',y =⟨o,s,n,t,ts,l',a'⟩/\ers l'=ers l:=by
 obtain⟨h1,h2,h3,h4,h5,h6⟩:=a7U h
 obtain⟨o',s',n',t',ts',l',a'⟩:=y
 simp only at h1 h2 h3 h4 h5 h6
 subst h1;subst h2;subst h3;subst h4;subst h5
 exact⟨l',a',rfl,h6⟩
theorem a3s {l:List Nod}(h:ers l=ers []):l=[]:=by cases l with
 | nil=>rfl
 | cons a r=>simp[ers]at h
theorem a9G {l:List Nod}{x:Nod}{r:List Nod}(h:ers l=ers (x::r)):∃x' r',l=x'::r'/\x'.er=x.er/\ers r'=ers r:=by cases l with
 | nil=>simp[ers]at h
 | cons a q=>simp only[ers,List.cons.injEq]at h;exact⟨a,q,rfl,h.1,h.2⟩
theorem a7A {l:List Nod}{x:Nod}(h:ers l=ers [x]):∃x',l=[x']/\x'.er=x.er:=by
 obtain⟨x',r,rfl,h1,h2⟩:=a9G h
 cases a3s h2
 exact⟨x',rfl,h1⟩
theorem b49 {l:List Nod}{x y:Nod}(h:ers l=ers [x,y]):∃x' y',l=[x',y']/\x'.er=x.er/\y'.er=y.er:=by
 obtain⟨x',r,rfl,h1,h2⟩:=a9G h
 obtain⟨y',rfl,h3⟩:=a7A h2
 exact⟨x',y',rfl,h1,h3⟩
theorem ers_3 {l:List Nod}{x y z:Nod}(h:ers l=ers [x,y,z]):∃x' y' z',l=[x',y',z']/\x'.er=x.er/\y'.er=y.er/\z'.er=z.er:=by
 obtain⟨x',r,rfl,h1,h2⟩:=a9G h
 obtain⟨y',z',rfl,h3,h4⟩:=b49 h2
 exact⟨x',y',z',rfl,h1,h3,h4⟩
theorem ers_a {q:List Nod}:∀{p l:List Nod},ers l=ers (p++q) -> ∃p' q',l=p'++q'/\ers p'=ers p/\ers q'=ers q
 | [],l,h=>⟨[],l,rfl,rfl,h⟩
 | x::p,l,h=>by
  obtain⟨x',r,rfl,h1,h2⟩:=a9G h
  obtain⟨p',q',rfl,h3,h4⟩:=ers_a h2
  exact⟨x'::p',q',rfl,by simp only[ers,h1,h3],h4⟩
def PE (P:Nod->List WK->Prop)(x:Nod)(w:List WK):Prop:=∀y,y.er=x.er->P y w
theorem a4W {P:Nod->List WK->Prop}{l:List Nod}{vs:List (List WK)}(h:a1e (PE P) l vs):∀{l':List Nod},ers l'=ers l->a1e P l' vs:=by
 induction h with
 | nil=>intro l' h;cases a3s h;exact .nil
 | cons h1 _ ih =>
  intro l' h
  obtain⟨x',r,rfl,g1,g2⟩:=a9G h
  exact .cons (h1 _ g1) (ih g2)
theorem a5q:∀l:List Nod,2*l.length<=szN l
 | []=>Nat.le_refl _
 | x::r=>by have:=a5q r;have:=x.sz2;simp only[szN,List.length_cons];omega
def SGL:List Str:=[[44],[46],[58],[59],[61],[38],[33],[45],[123],[125],[91],[93],[60],[62],[45,62],[124,124],[38,38],[61,61],[33,61],[60,61],[62,61],[43],[42],[47],[37]]
def KYL:List Str:=[[116,114,117,101],[102,97,108,115,101],[99,111,110,115,117,109,101],[97,110,121],[105,110],[105,110,111,117,116],[108,101,116],[118,97,114],[105,102],[101,108,115,101],[109,97,116,99,104],[99,97,115,101],[100,101,102,101,114],[119,104,105,108,101],[114,101,116,117,114,110],[116,104,114,111,119],[100,111],[99,97,116,99,104]]
def KO (V:Int->Str->Prop)(p:WK):Prop:=(p.1=1∨p.1=2∨p.1=3∨p.1=4)/\V p.1 p.2∨p.1=8/\p.2∈SGL∨p.1=9/\p.2∈KYL∨p =(1,[95])
inductive Bal (V:Int->Str->Prop):List WK->Prop
 | nil:Bal V []
 | tok {p:WK} {r:List WK}:KO V p->Bal V r->Bal V (p::r)
 | par {w r:List WK}:Bal V w->Bal V r->Bal V ((8,[40]) ::(w ++((8,[41])::r)))
 | int {s:Str} {vs:List (List WK×Str)} {r:List WK}:V 4 s->vs ≠ [] ->(∀v∈vs,Bal V v.1) ->(∀v∈vs,V 4 v.2)->Bal V r->Bal V ((5,s) ::(iw vs++r))
section
variable {V:Int->Str->Prop}
theorem Bal.app {a b:List WK}(h:Bal V a)(g:Bal V b):Bal V (a++b):=by
 induction h with
 | nil=>exact g
 | tok h1 _ ih=>exact .tok h1 ih
 | par h1 h2 _ ih2=>have:=Bal.par h1 ih2;simpa using this
 | int h1 h2 h3 h4 h5 _ ih=>have:=Bal.int h1 h2 h3 h4 ih;simpa using this
theorem Bal.s {s:Str}{r:List WK}(hs:s∈SGL)(h:Bal V r):Bal V ((8,s)::r):=.tok (.inr (.inl ⟨rfl,hs⟩)) h
theorem Bal.k {s:Str}{r:List WK}(hs:s∈KYL)(h:Bal V r):Bal V ((9,s)::r):=.tok (.inr (.inr (.inl ⟨rfl,hs⟩))) h
theorem Bal.v {k:Int}{s:Str}{r:List WK}(hk:k=1∨k=2∨k=3∨k=4)(hs:V k s)(h:Bal V r):Bal V ((k,s)::r):=.tok (.inl ⟨hk,hs⟩) h
theorem Bal.p {w r:List WK}(h:Bal V w)(g:Bal V r):Bal V ((8,[40]) ::(w ++((8,[41])::r))):=.par h g
theorem Bal.p1 {w:List WK}(h:Bal V w):Bal V ((8,[40]) ::(w++[(8,[41])])):=.par h .nil
theorem bal_cm {vs:List (List WK)}(h:∀w∈vs,Bal V w):Bal V (cm vs):=by
 induction vs with
 | nil=>exact .nil
 | cons w r ih=>rw[a3B];exact .s (by decide) ((h w (by simp)).app (ih fun x hx=>h x (by simp[hx])))
theorem b7N {vs:List (List WK)}(h:∀w∈vs,Bal V w):Bal V (jo vs):=by
 cases vs with
 | nil=>exact .nil
 | cons w r=>rw[a9I];exact(h w (by simp)).app (bal_cm fun x hx=>h x (by simp[hx]))
theorem b1V {vs:List (List WK)}(h:∀w∈vs,Bal V w):Bal V (cw vs):=.p1 (b7N h)
theorem c1h {vs:List (List WK)}(h:∀w∈vs,Bal V w):Bal V vs.flatten:=by
 induction vs with
 | nil=>exact .nil
 | cons w r ih=>rw[List.flatten_cons];exact(h w (by simp)).app (ih fun x hx=>h x (by simp[hx]))
theorem a6Z {α:Type}{R:α->List WK->Prop}{Q:List WK->Prop}{l:List α}{vs:List (List WK)}(h:a1e R l vs)(hq:∀a w,R a w->Q w):∀w∈vs,Q w:=by
 induction h with
 | nil=>intro w hw;cases hw
 | cons h1 _ ih =>
  intro w hw
  rcases List.mem_cons.1 hw with rfl|hw
  ·exact hq _ _ h1
  ·exact ih w hw
theorem b3S:∀{b:Bool} {t:Typ},GT V b t->Bal V (W t):=by
 intro b t h
 induction h with
 | @base s a h1 h2 ih =>
  rw[b4Q]
  refine .v (.inr (.inl rfl)) h1 ?_
  cases a with
  | nil=>exact .nil
  | cons t r =>
   have ea:an (WW (t::r)) =(8,[60]) ::(jo (WW (t::r))++[(8,[62])]):=by rw[WW];rfl
   rw[ea]
   refine .s (by decide) ((b7N fun w hw=>?_).app (.s (by decide) .nil))
   rw[a4V]at hw
   obtain⟨x,hx,rfl⟩:=List.mem_map.1 hw
   exact ih x hx
 | @dot s t h1 h2 ih =>
  have e:W ⟨8,s,0,[t]⟩=W t++[(8,[46]),(2,s)]:=by rw[b4S];simp[wk,WW,jo]
  rw[e]
  exact ih.app (.s (by decide) (.v (.inr (.inl rfl)) h1 .nil))
 | path _ ih=>exact ih
 | any h=>rw[b4S];exact .k (by decide) (.v (.inr (.inl rfl)) h .nil)
 | @func a r h1 h2 ih1 ih2 =>
  rw[W_func]
  refine .par (b7N fun w hw=>?_) (.s (by decide) ih2)
  rw[a4V]at hw
  obtain⟨x,hx,rfl⟩:=List.mem_map.1 hw
  exact ih1 x hx
theorem bal_rs {t:Typ}(h:t=uT∨GT V false t):Bal V (rsw t):=by
 unfold rsw
 cases hk:eqB t.kind 4
 ·rcases h with rfl|h
  ·rw[a0C rfl]at hk;cases hk
  ·exact .s (by decide) (b3S h)
 ·exact .nil
def HLx:List WK:=[(8,[40]),(8,[91]),(8,[123]),(8,[45]),(8,[33]),(9,[116,114,117,101]),(9,[102,97,108,115,101]),(9,[99,111,110,115,117,109,101])]
def HX (w:List WK):Prop:=∃p r,w=p::r/\((p.1=1∨p.1=2∨p.1=3∨p.1=4∨p.1=5)∨p∈HLx)
theorem b3Z {w:List WK}(h:HX w){kd:Int}{s:Str}(h1:kd=8∨kd=9)(h2:(kd,s) ∉ HLx)(r:List WK):nx (w++r) kd s=false:=by
 obtain⟨p,q,rfl,hp⟩:=h
 show(decide (p.1=kd)&&decide (p.2=s))=false
 rcases hp with hp|hp
 ·rw[decide_eq_false (by omega)];rfl
 ·by_cases e:p.1=kd/\p.2=s
  ·exact absurd (show(kd,s)∈HLx by rw[<-e.1,<-e.2];exact hp) h2
  ·by_cases e1:p.1=kd
   ·rw[decide_eq_false (show ¬p.2=s from fun g=>e ⟨e1,g⟩),Bool.and_false]
   ·rw[decide_eq_false e1];rfl
theorem hx_eh {w:List WK}(h:HX w)(r:List WK):EH (w++r):=by
 obtain⟨p,q,rfl,hp⟩:=h
 refine⟨p,q++r,rfl,?_⟩
 rcases hp with hp|hp
 ·left;omega
 ·by_cases h9:p.1=9
  ·right
   simp only[HLx,List.mem_cons,List.not_mem_nil,or_false]at hp
   rcases hp with rfl|rfl|rfl|rfl|rfl|rfl|rfl|rfl<;>first |(exact absurd h9 (by decide))|decide
  ·exact .inl h9
def NU (w:List WK):Prop:=∀r,nx (w++r) 8 [45]=false/\nx (w++r) 8 [33]=false
structure XR (V:Int->Str->Prop)(x:Nod)(w:List WK):Prop where
 p:PE PX x w
 u:RU x w
 hd:HX w
 l:x.op≠65->x.op≠66->RL x w/\NU w
 pl:PLC x->RP x w
 b:Bal V w
structure SR (V:Int->Str->Prop)(x:Nod)(w:List WK):Prop where
 p:PE PS x w
 r:SH x w
 b:Bal V w
structure BR (V:Int->Str->Prop)(x:Nod)(w:List WK):Prop where
 p:PE PB x w
 r:RBl x w
 b:Bal V w
 o:x.op=20
structure TR (V:Int->Str->Prop)(x:Nod)(w:List WK):Prop where
 p:PE PT x w
 r:RT x w
 b:Bal V w
structure MR (V:Int->Str->Prop)(x:Nod)(w:List WK):Prop where
 p:PE PM x w
 r:RM V x w
 b:Bal V w
structure AR (V:Int->Str->Prop)(x:Nod)(w:List WK):Prop where
 p:PE PA x w
 r:RAm x w
 b:Bal V w
structure GR (V:Int->Str->Prop)(x:Nod)(w:List WK):Prop where
 p:PE PX x w
 r:RG x w
 b:Bal V w
structure CR (V:Int->Str->Prop)(x:Nod)(w:List WK):Prop where
 p:PE PS x w
 r:RC x w
 b:Bal V w
 o:x.op=24
 h:∃u,w =(9,[105,102])::u
theorem XR.e {x:Nod}{w:List WK}(h:XR V x w):RE x w:=re_of h.u
theorem b8F {x:Nod}(h:PLC x):x.op=54∨x.op=55:=by
 cases h with
 | nm h=>exact .inl h
 | fld _=>exact .inr rfl
theorem mkX {x:Nod}{w:List WK}(p:PE PX x w)(rl:RL x w)(hd:HX w)(nu:NU w)(h54:decide (x.op=54)=false)(h55:decide (x.op=55)=false)(b:Bal V w):XR V x w:=⟨p,ru_of rl (fun r=>(nu r).1) fun r=>(nu r).2,hd,fun _ _=>⟨rl,nu⟩,fun h=>(b8F h).elim (absurd · (of_decide_eq_false h54)) (absurd · (of_decide_eq_false h55)),b⟩
theorem mkA {x:Nod}{w:List WK}(p:PE PX x w)(ra:RAN x w)(hd:HX w)(nu:NU w)(h54:decide (x.op=54)=false)(h55:decide (x.op=55)=false)(b:Bal V w):XR V x w:=mkX p (rl_of ra (by obtain⟨p,r,rfl,_⟩:=hd;simp)) hd nu h54 h55 b
theorem rcv {x:Nod}{w:List WK}(h:XR V x w):RL x (rwd x w)/\NU (rwd x w)/\HX (rwd x w)/\Bal V (rwd x w):=by
 unfold rwd
 cases hb:(eqB x.op 61||eqB x.op 63||eqB x.op 66||eqB x.op 65)
 ·simp only[Bool.or_eq_false_iff]at hb
  obtain⟨⟨⟨_,_⟩,h1⟩,h2⟩:=hb
  obtain⟨g1,g2⟩:=h.l (fun e=>by rw[a0C e]at h2;cases h2) (fun e=>by rw[a0C e]at h1;cases h1)
  exact⟨g1,g2,h.hd,h.b⟩
 ·exact⟨rl_of (b21 h.e).n (by simp),fun r=>⟨rfl,rfl⟩,⟨_,_,rfl,.inr (by decide)⟩,.p1 h.b⟩
theorem nu_app {a b:List WK}(h:NU a):NU (a++b):=fun r=>by rw[List.append_assoc];exact h _
theorem b3w {a b:List WK}(h:HX a):HX (a++b):=by
 obtain⟨p,r,rfl,h⟩:=h
 exact⟨p,r++b,rfl,h⟩
theorem rwd_op {x y:Nod}{w:List WK}(h:y.er=x.er):rwd y w=rwd x w:=by unfold rwd;rw[(a7U h).1]
theorem hx_W {t:Typ}(h:GT V true t)(r:List WK):HX (W t++r)/\NU (W t++r):=by
 obtain⟨u,q,e⟩:=W_two h
 rw[e]
 exact⟨⟨_,_,rfl,.inl (.inr (.inl rfl))⟩,fun r=>⟨rfl,rfl⟩⟩
structure VO (V:Int->Str->Prop):Prop where
 n3:∀{s},V 3 s->NumW s
 d3:∀{s},V 3 s->b2H s=true
 t4:∀{s},V 4 s->s.length<=20000
def REC (V:Int->Str->Prop)(c:Nat)(x:Nod):Prop:=match c with
 | 0=>∃w,XR V x w
 | 1=>∃w,SR V x w
 | 2=>∃w,BR V x w
 | 3=>∃w,TR V x w
 | 4=>∃w,MR V x w
 | 5=>∃w,AR V x w
 | 6=>∃w,GR V x w
 | 19=>∃w,CR V x w
 | _=>True
theorem b0S {R:Nod->List WK->Prop}{l:List Nod}{N:Nat}(h:∀y∈l,y.sz<=N -> ∃w,R y w)(hl:szN l<=N):∃vs,a1e R l vs:=b7M fun y hy=>h y hy (by have:=a5r hy;omega)
theorem b52 {l:List Nod}{vs:List (List WK)}(h:a1e (GR V) l vs)(hz:szN l<=12000):RGs 9 l (cw vs):=rg_args (h.imp fun _ _ _ g=>g.r) (by have:=a5q l;omega)
theorem gt_kd {b:Bool}{t:Typ}(h:GT V b t):t.kind≠0:=by
 induction h with
 | @base s a h1 h2 =>
  show kindOf s a≠0
  unfold kindOf
  cases(eqB (a.length:Int) 0&&eqS s [73,110,116])<;>cases(eqB (a.length:Int) 0&&eqS s [66,111,111,108])<;>cases(eqB (a.length:Int) 0&&eqS s [84,101,120,116])<;>cases(eqB (a.length:Int) 0&&eqS s [85,110,105,116])<;>cases(eqB (a.length:Int) 1&&eqS s [65,114,114,97,121])<;>cases(eqB (a.length:Int) 1&&eqS s [87,101,97,107])<;>decide
 | dot _ _=>simp
 | path _ ih=>exact ih
 | any _=>simp
 | func _ _=>simp
theorem op_er {n:Int}:∀{l l':List Nod},ers l'=ers l ->(∀x∈l,x.op=n) -> ∀x∈l',x.op=n
 | [],l',h,_=>by cases a3s h;intro x hx;cases hx
 | y::r,l',h,g=>by
  obtain⟨x',r',rfl,h1,h2⟩:=a9G h
  intro x hx
  rcases List.mem_cons.1 hx with rfl|hx
  ·rw[(a7U h1).1];exact g y (by simp)
  ·exact op_er h2 (fun z hz=>g z (by simp[hz])) x hx
theorem fl_sz:∀{ps:List (Nod×Nod)} {p:Nod×Nod},p∈ps->p.1.sz<=szN (fl ps)
 | q::r,p,h=>by
  rw[fl,a3X,a3X]
  rcases List.mem_cons.1 h with rfl|h
  ·omega
  ·have:=fl_sz h;omega
def RPv (V:Int->Str->Prop)(p:Nod×Nod)(v:List WK×Str):Prop:=XR V p.1 v.1/\(∃a,p.2 =⟨52,v.2,0,zT,[],[],a⟩)/\V 4 v.2
theorem fl_er (vo:VO V){ps:List (Nod×Nod)}{vs:List (List WK×Str)}(h:a1e (RPv V) ps vs):∀{l':List Nod},ers l'=ers (fl ps) -> ∃ps',l'=fl ps'/\a1e PI ps' vs:=by
 induction h with
 | nil=>intro l' h;cases a3s h;exact⟨[],rfl,.nil⟩
 | @cons p v ps vs h1 h2 ih =>
  intro l' h
  rw[fl]at h
  obtain⟨x',r,rfl,g1,g2⟩:=a9G h
  obtain⟨y',r',rfl,g3,g4⟩:=a9G g2
  obtain⟨ps',rfl,g5⟩:=ih g4
  obtain⟨k1,⟨a,k2⟩,k3⟩:=h1
  rw[k2]at g3
  obtain⟨l0,b,rfl,g6⟩:=a1F g3
  cases a3s g6
  exact⟨(x',⟨52,v.2,0,zT,[],[],b⟩)::ps',rfl,.cons ⟨k1.p _ g1,⟨b,rfl⟩,vo.t4 k3⟩ g5⟩
theorem all2_q {α β:Type}{R:α->β->Prop}{Q:β->Prop}{l:List α}{vs:List β}(h:a1e R l vs)(hq:∀a w,R a w->Q w):∀w∈vs,Q w:=by
 induction h with
 | nil=>intro w hw;cases hw
 | cons h1 _ ih =>
  intro w hw
  rcases List.mem_cons.1 hw with rfl|hw
  ·exact hq _ _ h1
  ·exact ih w hw
theorem b3I {x:Nod}{s:Str}{w:List WK}(hs:s ≠ [101,108,115,101])(h:RSt x ((9,s)::w)):SH x ((9,s)::w):=⟨h,fun r=>rfl,fun r=>by
 show(decide ((9:Int)=9)&&decide (s=_))=false
 rw[decide_eq_false hs,Bool.and_false]⟩
theorem gx_x (vo:VO V):∀{c:Nat} {x:Nod},G V c x->x.sz<=12000->REC V c x:=by
 intro c x h
 induction h with
 | @int s a h =>
  intro _
  refine⟨[(3,s)],mkA (fun y hy=>?_) (ra_int (vo.d3 h)).n ⟨_,_,rfl,.inl (.inr (.inr (.inl rfl)))⟩ (fun r=>⟨rfl,rfl⟩) rfl rfl (.v (.inr (.inr (.inl rfl))) h .nil)⟩
  obtain⟨l',b,rfl,hl⟩:=a1F hy;cases a3s hl;exact px_int (vo.n3 h)
 | @tru a =>
  intro _
  refine⟨_,mkA (fun y hy=>?_) ra_tru.n ⟨_,_,rfl,.inr (by decide)⟩ (fun r=>⟨rfl,rfl⟩) rfl rfl (.k (by decide) .nil)⟩
  obtain⟨l',b,rfl,hl⟩:=a1F hy;cases a3s hl;exact px_tru
 | @fal a =>
  intro _
  refine⟨_,mkA (fun y hy=>?_) ra_fal.n ⟨_,_,rfl,.inr (by decide)⟩ (fun r=>⟨rfl,rfl⟩) rfl rfl (.k (by decide) .nil)⟩
  obtain⟨l',b,rfl,hl⟩:=a1F hy;cases a3s hl;exact px_fal
 | @text s a h =>
  intro _
  refine⟨[(4,s)],mkA (fun y hy=>?_) ra_text.n ⟨_,_,rfl,.inl (.inr (.inr (.inr (.inl rfl))))⟩ (fun r=>⟨rfl,rfl⟩) rfl rfl (.v (.inr (.inr (.inr rfl))) h .nil)⟩
  obtain⟨l',b,rfl,hl⟩:=a1F hy;cases a3s hl;exact px_text (vo.t4 h)
 | @name s a h =>
  intro _
  have rl:RL ⟨54,s,0,zT,[],[],a⟩ [(1,s)]:=rl_of c33.n (by simp)
  refine⟨[(1,s)],fun y hy=>?_,ru_of rl (fun _=>rfl) (fun _=>rfl),⟨_,_,rfl,.inl (.inl rfl)⟩,fun _ _=>⟨rl,(fun r=>⟨rfl,rfl⟩)⟩,fun _=>rp_name,.v (.inl rfl) h .nil⟩
  obtain⟨l',b,rfl,hl⟩:=a1F hy;cases a3s hl;exact px_name
 | @cons s a h =>
  intro _
  refine⟨_,mkA (fun y hy=>?_) ra_cons.n ⟨_,_,rfl,.inr (by decide)⟩ (fun r=>⟨rfl,rfl⟩) rfl rfl (.k (by decide) (.v (.inl rfl) h .nil))⟩
  obtain⟨l',b,rfl,hl⟩:=a1F hy;cases a3s hl;exact px_cons
 | @bin s x y a ho h1 h2 ih1 ih2 =>
  intro hz
  simp only[SZ]at hz
  obtain⟨w,g1⟩:=ih1 (by omega)
  obtain⟨v,g2⟩:=ih2 (by omega)
  refine⟨_,mkA (fun z hy=>?_) (ra_bin ho g1.u g2.u).n ⟨_,_,rfl,.inr (by decide)⟩ (fun r=>⟨rfl,rfl⟩) rfl rfl ?_⟩
  ·obtain⟨l',b,rfl,hl⟩:=a1F hy;obtain⟨x',y',rfl,e1,e2⟩:=b49 hl;exact px_bin (g1.p _ e1) (g2.p _ e2)
  ·have hs:s∈SGL:=by refine a8C (P:=fun s=>s∈SGL) ho ?_ ?_ ?_ ?_ ?_ ?_ ?_ ?_ ?_ ?_ ?_ ?_ ?_<;>decide
   have:=Bal.p1 (g1.b.app (.s hs g2.b))
   simpa using this
 | @un o x a ho h ih =>
  intro hz
  simp only[SZ]at hz
  obtain⟨w,g⟩:=ih (by omega)
  rcases ho with rfl|rfl
  ·refine⟨(8,[33])::w,fun z hy=>?_,ru_un (.inl ⟨rfl,rfl⟩) g.u,⟨_,_,rfl,.inr (by decide)⟩,fun h=>absurd rfl h,fun h=>(by rcases b8F h with h|h<;>cases h),.s (by decide) g.b⟩
   obtain⟨l',b,rfl,hl⟩:=a1F hy;obtain⟨x',rfl,e1⟩:=a7A hl;exact px_not (g.p _ e1)
  ·refine⟨(8,[45])::w,fun z hy=>?_,ru_un (.inr ⟨rfl,rfl⟩) g.u,⟨_,_,rfl,.inr (by decide)⟩,fun _ h=>absurd rfl h,fun h=>(by rcases b8F h with h|h<;>cases h),.s (by decide) g.b⟩
   obtain⟨l',b,rfl,hl⟩:=a1F hy;obtain⟨x',rfl,e1⟩:=a7A hl;exact px_neg (g.p _ e1)
 | @field s x a hs h ih =>
  intro hz
  simp only[SZ]at hz
  obtain⟨w,g⟩:=ih (by omega)
  obtain⟨g1,g2,g3,g4⟩:=rcv g
  have rl:=rl_field (s:=s) (a:=a) g1
  have nu:NU (rwd x w++[(8,[46]),(1,s)]):=nu_app g2
  refine⟨_,fun z hy=>?_,ru_of rl (fun r=>(nu r).1) (fun r=>(nu r).2),b3w g3,fun _ _=>⟨rl,nu⟩,fun hp=>?_,g4.app (.s (by decide) (.v (.inl rfl) hs .nil))⟩
  ·obtain⟨l',b,rfl,hl⟩:=a1F hy;obtain⟨x',rfl,e1⟩:=a7A hl
   refine b2o (.inl rfl) ?_
   rw[<-rwd_op e1]
   exact pu_field (g.p _ e1)
  ·have hp:PLC x:=by
    cases hp with
    | nm h=>cases h
    | fld h=>exact h
   have e:rwd x w=w:=by
    unfold rwd
    rcases b8F hp with h|h<;>rw[h]<;>simp[eqB]
   rw[e]
   exact rp_field (g.pl hp)
 | @call s l a hs h ih =>
  intro hz
  simp only[SZ]at hz
  obtain⟨vs,g⟩:=b0S ih (show szN l<=12000 by omega)
  have hb:=b1V (a6Z g fun _ _ h=>h.b)
  refine⟨_,mkX (fun z hy=>?_) (rl_call (b52 g (by omega))) ⟨_,_,rfl,.inl (.inl rfl)⟩ (fun r=>⟨rfl,rfl⟩) rfl rfl (.v (.inl rfl) hs hb)⟩
  obtain⟨l',b,rfl,hl⟩:=a1F hy
  exact b2o (.inr (.inl rfl)) (pu_call (a4W (g.imp fun _ _ _ h=>h.p) hl))
 | @method s x l a hs h1 h ih1 ih =>
  intro hz
  simp only[SZ]at hz
  obtain⟨w,g1⟩:=ih1 (by omega)
  obtain⟨vs,g⟩:=b0S ih (show szN l<=12000 by omega)
  have hb:=b1V (a6Z g fun _ _ h=>h.b)
  obtain⟨k1,k2,k3,k4⟩:=rcv g1
  refine⟨_,mkX (fun z hy=>?_) (rl_method k1 (b52 g (by omega))) (b3w k3) (nu_app k2) rfl rfl (k4.app (.s (by decide) (.v (.inl rfl) hs hb)))⟩
  obtain⟨l',b,rfl,hl⟩:=a1F hy
  obtain⟨x',r',rfl,e1,e2⟩:=a9G hl
  refine b2o (.inr (.inr (.inl rfl))) ?_
  rw[<-rwd_op e1]
  exact c5b (g1.p _ e1) (a4W (g.imp fun _ _ _ h=>h.p) e2)
 | @stat0 s t a hs ht =>
  intro hz
  simp only[SZ]at hz
  refine⟨_,mkA (fun z hy=>?_) (ra_stat0 ht (by omega)) (hx_W ht _).1 (hx_W ht _).2 rfl rfl ((b3S ht).app (.s (by decide) (.v (.inl rfl) hs .nil)))⟩
  obtain⟨l',b,rfl,hl⟩:=a1F hy;cases a3s hl
  exact b2o (.inr (.inr (.inr (.inl rfl)))) pu_stat0
 | @stat1 s t l a hs ht h ih =>
  intro hz
  simp only[SZ]at hz
  obtain⟨vs,g⟩:=b0S ih (show szN l<=12000 by omega)
  have hb:=b1V (a6Z g fun _ _ h=>h.b)
  refine⟨_,mkA (fun z hy=>?_) (ra_stat1 ht (by omega) (b52 g (by omega))).n (hx_W ht _).1 (hx_W ht _).2 rfl rfl ((b3S ht).app (.s (by decide) (.v (.inl rfl) hs hb)))⟩
  obtain⟨l',b,rfl,hl⟩:=a1F hy
  exact b2o (.inr (.inr (.inr (.inl rfl)))) (pu_stat1 (a4W (g.imp fun _ _ _ h=>h.p) hl))
 | @make t l a ht h ih =>
  intro hz
  simp only[SZ]at hz
  obtain⟨vs,g⟩:=b0S ih (show szN l<=12000 by omega)
  have hb:=b1V (a6Z g fun _ _ h=>h.b)
  refine⟨_,mkA (fun z hy=>?_) (ra_make ht (by omega) (b52 g (by omega))).n (hx_W ht _).1 (hx_W ht _).2 rfl rfl ((b3S ht).app hb)⟩
  obtain⟨l',b,rfl,hl⟩:=a1F hy
  exact b2o (.inr (.inr (.inr (.inr (.inl rfl))))) (pu_make (a4W (g.imp fun _ _ _ h=>h.p) hl))
 | @apply x l a h1 h ih1 ih =>
  intro hz
  simp only[SZ]at hz
  obtain⟨w,g1⟩:=ih1 (by omega)
  obtain⟨vs,g⟩:=b0S ih (show szN l<=12000 by omega)
  have hb:=b1V (a6Z g fun _ _ h=>h.b)
  refine⟨_,mkX (fun z hy=>?_) (rl_apply g1.e (b52 g (by omega))) ⟨_,_,rfl,.inr (by decide)⟩ (fun r=>⟨rfl,rfl⟩) rfl rfl (.par g1.b hb)⟩
  obtain⟨l',b,rfl,hl⟩:=a1F hy
  obtain⟨x',r',rfl,e1,e2⟩:=a9G hl
  exact b2o (.inr (.inr (.inr (.inr (.inr rfl))))) (pu_apply (g1.p _ e1) (a4W (g.imp fun _ _ _ h=>h.p) e2))
 | @list l a h ih =>
  intro hz
  simp only[SZ]at hz
  obtain⟨vs,g⟩:=b0S ih (show szN l<=12000 by omega)
  have hl2:=a5q l
  refine⟨_,mkA (fun z hy=>?_) (ra_list (g.imp fun _ _ _ h=>⟨h.e,b3Z h.hd (.inl rfl) (by decide)⟩) (by omega)).n ⟨_,_,rfl,.inr (by decide)⟩ (fun r=>⟨rfl,rfl⟩) rfl rfl (.s (by decide) ((b7N (a6Z g fun _ _ h=>h.b)).app (.s (by decide) .nil)))⟩
  obtain⟨l',b,rfl,hl⟩:=a1F hy
  exact px_elist (a4W (g.imp fun _ _ _ h=>h.p) hl)
 | @lend x a h hp ih =>
  intro hz
  simp only[SZ]at hz
  obtain⟨w,g⟩:=ih (by omega)
  refine⟨(8,[38])::w,fun z hy=>?_,.inl ⟨x,w,a,rfl,rfl,g.pl hp⟩,.s (by decide) g.b⟩
  obtain⟨l',b,rfl,hl⟩:=a1F hy;obtain⟨x',rfl,e1⟩:=a7A hl;exact px_lend (g.p _ e1)
 | @arg x h ih =>
  intro hz
  obtain⟨w,g⟩:=ih hz
  exact⟨w,g.p,.inr ⟨g.e,b3Z g.hd (.inl rfl) (by decide),b3Z g.hd (.inl rfl) (by decide)⟩,g.b⟩
 | @interp x ps a hx hp h1 h2 ih1 =>
  intro hz
  simp only[SZ]at hz
  cases hx with
  | @mk s b hs =>
   have hg:∃vs,a1e (RPv V) ps vs:=b7M fun p hp=>by
    obtain⟨w,g⟩:=ih1 p hp (by have:=fl_sz hp;omega)
    have g2:=h2 p hp
    obtain⟨p1,p2⟩:=p
    simp only at g g2
    cases g2 with
    | @mk u c hu=>exact⟨(w,u),g,⟨c,rfl⟩,hu⟩
   obtain⟨vs,g⟩:=hg
   have hfl:=b78 ps
   have hl2:=a5q (fl ps)
   have hvp:vs ≠ []:=by intro e;subst e;cases g;exact hp rfl
   refine⟨(5,s)::iw vs,mkA (fun z hy=>?_) (c5f hp (g.imp fun _ _ _ h=>⟨h.1.e,h.2.1⟩) (by omega)).n ⟨_,_,rfl,.inl (.inr (.inr (.inr (.inr rfl))))⟩ (fun r=>⟨rfl,rfl⟩) rfl rfl ?_⟩
   ·obtain⟨l',b',rfl,hl⟩:=a1F hy
    obtain⟨x',r',rfl,e1,e2⟩:=a9G hl
    obtain⟨l0,b2,rfl,e3⟩:=a1F e1
    cases a3s e3
    obtain⟨ps',rfl,e4⟩:=fl_er vo g e2
    refine c5d (vo.t4 hs) (fun e=>?_) e4
    subst e
    cases e4
    exact hvp rfl
   ·have:=Bal.int (r:=[]) hs hvp (all2_q g fun _ _ h=>h.1.b) (all2_q g fun _ _ h=>h.2.2) .nil
    simpa using this
 | @clos t ps ss a b ht h1 h2 ih1 ih2 =>
  intro hz
  simp only[SZ]at hz
  obtain⟨us,g1⟩:=b0S ih1 (show szN ps<=12000 by omega)
  obtain⟨vs,g2⟩:=b0S ih2 (show szN ss<=12000 by omega)
  have l1:=a5q ps
  have l2:=a5q ss
  have hb:=Bal.s (V:=V) (s:=[123]) (by decide) ((b1V (a6Z g1 fun _ _ h=>h.b)).app ((bal_rs ht).app (.k (s:=[105,110]) (by decide) ((c1h (a6Z g2 fun _ _ h=>h.b)).app (.s (s:=[125]) (by decide) .nil)))))
  refine⟨_,mkA (fun z hy=>?_) (ra_clos ht (by omega) (g1.imp fun _ _ _ h=>h.r) (by omega) (g2.imp fun _ _ _ h=>h.r) (by omega)).n ⟨_,_,rfl,.inr (by decide)⟩ (fun r=>⟨rfl,rfl⟩) rfl rfl hb⟩
  obtain⟨l',b',rfl,hl⟩:=a1F hy
  obtain⟨p',q',rfl,e1,e2⟩:=ers_a hl
  obtain⟨x',rfl,e3⟩:=a7A e2
  obtain⟨s',b2,rfl,e4⟩:=a1F e3
  exact px_clos (op_er e1 fun x hx=>by cases h1 x hx;rfl) (a4W (g1.imp fun _ _ _ h=>h.p) e1) (a4W (g2.imp fun _ _ _ h=>h.p) e4)
 | @let0 s t a hs ht =>
  intro hz
  simp only[SZ]at hz
  refine⟨_,fun z hy=>?_,b3I (by decide) (c2z (rl_var0 ht (by omega))),.k (by decide) (.v (.inl rfl) hs (.s (by decide) ((b3S ht).app (.s (by decide) .nil))))⟩
  obtain⟨l',b,rfl,hl⟩:=a1F hy;cases a3s hl
  exact ps_let0 (gt_kd ht)
 | @let1 s n t x a hs hn ht h ih =>
  intro hz
  simp only[SZ]at hz
  obtain⟨w,g⟩:=ih (by omega)
  rcases hn with rfl|rfl<;>rcases ht with rfl|ht
  ·refine⟨_,fun z hy=>?_,b3I (by decide) (rs_let (rl_letu g.e)),.k (by decide) (.v (.inl rfl) hs (.s (by decide) (g.b.app (.s (by decide) .nil))))⟩
   obtain⟨l',b,rfl,hl⟩:=a1F hy;obtain⟨x',rfl,e1⟩:=a7A hl
   exact ps_letu0 (g.p _ e1)
  ·refine⟨_,fun z hy=>?_,b3I (by decide) (rs_let (rl_lett ht (by omega) g.e)),.k (by decide) (.v (.inl rfl) hs (.s (by decide) ((b3S ht).app (.s (by decide) (g.b.app (.s (by decide) .nil))))))⟩
   obtain⟨l',b,rfl,hl⟩:=a1F hy;obtain⟨x',rfl,e1⟩:=a7A hl
   exact ps_lett0 (gt_kd ht) (g.p _ e1)
  ·refine⟨_,fun z hy=>?_,b3I (by decide) (c2z (rl_varu g.e)),.k (by decide) (.v (.inl rfl) hs (.s (by decide) (g.b.app (.s (by decide) .nil))))⟩
   obtain⟨l',b,rfl,hl⟩:=a1F hy;obtain⟨x',rfl,e1⟩:=a7A hl
   exact ps_letu1 (g.p _ e1)
  ·refine⟨_,fun z hy=>?_,b3I (by decide) (c2z (rl_vart ht (by omega) g.e)),.k (by decide) (.v (.inl rfl) hs (.s (by decide) ((b3S ht).app (.s (by decide) (g.b.app (.s (by decide) .nil))))))⟩
   obtain⟨l',b,rfl,hl⟩:=a1F hy;obtain⟨x',rfl,e1⟩:=a7A hl
   exact ps_lett1 (gt_kd ht) (g.p _ e1)
 | @assign x y a h1 hp h2 ih1 ih2 =>
  intro hz
  simp only[SZ]at hz
  obtain⟨w,g⟩:=ih1 (by omega)
  obtain⟨v,f⟩:=ih2 (by omega)
  refine⟨_,fun z hy=>?_,⟨c5p g.e hp (by omega) f.e (by have:=hx_eh g.hd [];rwa [List.append_nil]at this),b3Z (b3w g.hd) (.inl rfl) (by decide),b3Z (b3w g.hd) (.inr rfl) (by decide)⟩,g.b.app (.s (by decide) (f.b.app (.s (by decide) .nil)))⟩
  obtain⟨l',b,rfl,hl⟩:=a1F hy;obtain⟨x',y',rfl,e1,e2⟩:=b49 hl
  exact c5a (g.p _ e1) (f.p _ e2)
 | @sole x a h ih =>
  intro hz
  simp only[SZ]at hz
  obtain⟨w,g⟩:=ih (by omega)
  refine⟨_,fun z hy=>?_,⟨rs_sole g.e (by have:=hx_eh g.hd [];rwa [List.append_nil]at this),b3Z (b3w g.hd) (.inl rfl) (by decide),b3Z (b3w g.hd) (.inr rfl) (by decide)⟩,g.b.app (.s (by decide) .nil)⟩
  obtain⟨l',b,rfl,hl⟩:=a1F hy;obtain⟨x',rfl,e1⟩:=a7A hl
  exact ps_sole (g.p _ e1)
 | @if2 x b a h1 h2 ih1 ih2 =>
  intro hz
  simp only[SZ]at hz
  obtain⟨w,g⟩:=ih1 (by omega)
  obtain⟨v,f⟩:=ih2 (by omega)
  refine⟨_,fun z hy=>?_,rc_if2 g.e f.r,.k (by decide) (g.b.app f.b),rfl,_,rfl⟩
  obtain⟨l',b,rfl,hl⟩:=a1F hy;obtain⟨x',y',rfl,e1,e2⟩:=b49 hl
  exact ps_if2 (g.p _ e1) (f.p _ e2)
 | @if3 x b c a h1 h2 h3 ih1 ih2 ih3 =>
  intro hz
  simp only[SZ]at hz
  obtain⟨w,g⟩:=ih1 (by omega)
  obtain⟨v,f⟩:=ih2 (by omega)
  obtain⟨u,k⟩:=ih3 (by omega)
  refine⟨_,fun z hy=>?_,rc_if3 g.e f.r k.r,.k (by decide) (g.b.app (f.b.app (.k (by decide) k.b))),rfl,_,rfl⟩
  obtain⟨l',b,rfl,hl⟩:=a1F hy;obtain⟨x',y',z',rfl,e1,e2,e3⟩:=ers_3 hl
  exact ps_if3 (g.p _ e1) (f.p _ e2) (k.p _ e3) (by rw[(a7U e3).1,k.o];decide)
 | @if4 x b c a h1 h2 h3 ih1 ih2 ih3 =>
  intro hz
  simp only[SZ]at hz
  obtain⟨w,g⟩:=ih1 (by omega)
  obtain⟨v,f⟩:=ih2 (by omega)
  obtain⟨u,k⟩:=ih3 (by omega)
  obtain⟨u',hu⟩:=k.h
  subst hu
  refine⟨_,fun z hy=>?_,rc_if4 g.e f.r k.r,.k (by decide) (g.b.app (f.b.app (.k (by decide) k.b))),rfl,_,rfl⟩
  obtain⟨l',b,rfl,hl⟩:=a1F hy;obtain⟨x',y',z',rfl,e1,e2,e3⟩:=ers_3 hl
  exact ps_if4 (g.p _ e1) (f.p _ e2) (k.p _ e3) (by rw[(a7U e3).1,k.o])
 | @ifs x h ih =>
  intro hz
  obtain⟨w,g⟩:=ih hz
  obtain⟨u,hu⟩:=g.h
  subst hu
  exact⟨_,g.p,b3I (by decide) (rs_if g.r),g.b⟩
 | @whil x b a h1 h2 ih1 ih2 =>
  intro hz
  simp only[SZ]at hz
  obtain⟨w,g⟩:=ih1 (by omega)
  obtain⟨v,f⟩:=ih2 (by omega)
  refine⟨_,fun z hy=>?_,b3I (by decide) (rs_while g.e f.r),.k (by decide) (g.b.app f.b)⟩
  obtain⟨l',b,rfl,hl⟩:=a1F hy;obtain⟨x',y',rfl,e1,e2⟩:=b49 hl
  exact ps_while (g.p _ e1) (f.p _ e2)
 | @mat x l a h1 h ih1 ih =>
  intro hz
  simp only[SZ]at hz
  obtain⟨w,g1⟩:=ih1 (by omega)
  obtain⟨vs,g⟩:=b0S ih (show szN l<=12000 by omega)
  have hl2:=a5q l
  refine⟨_,fun z hy=>?_,b3I (by decide) (rs_match (rm_match g1.e (g.imp fun _ _ _ h=>h.r) (by omega))),.k (by decide) (g1.b.app (.s (by decide) ((c1h (a6Z g fun _ _ h=>h.b)).app (.s (by decide) .nil))))⟩
  obtain⟨l',b,rfl,hl⟩:=a1F hy
  obtain⟨x',r',rfl,e1,e2⟩:=a9G hl
  exact ps_match (g1.p _ e1) (a4W (g.imp fun _ _ _ h=>h.p) e2)
 | @ret0 a =>
  intro _
  refine⟨_,fun z hy=>?_,b3I (by decide) rs_ret0,.k (by decide) (.s (by decide) .nil)⟩
  obtain⟨l',b,rfl,hl⟩:=a1F hy;cases a3s hl
  exact ps_ret0
 | @ret1 x a h ih =>
  intro hz
  simp only[SZ]at hz
  obtain⟨w,g⟩:=ih (by omega)
  refine⟨_,fun z hy=>?_,b3I (by decide) (rs_ret1 g.e (b3Z g.hd (.inl rfl) (by decide))),.k (by decide) (g.b.app (.s (by decide) .nil))⟩
  obtain⟨l',b,rfl,hl⟩:=a1F hy;obtain⟨x',rfl,e1⟩:=a7A hl
  exact ps_ret1 (g.p _ e1)
 | @thrw x a h ih =>
  intro hz
  simp only[SZ]at hz
  obtain⟨w,g⟩:=ih (by omega)
  refine⟨_,fun z hy=>?_,b3I (by decide) (rs_throw g.e),.k (by decide) (g.b.app (.s (by decide) .nil))⟩
  obtain⟨l',b,rfl,hl⟩:=a1F hy;obtain⟨x',rfl,e1⟩:=a7A hl
  exact ps_throw (g.p _ e1)
 | @doc s b c a hs h1 h2 ih1 ih2 =>
  intro hz
  simp only[SZ]at hz
  obtain⟨w,g⟩:=ih1 (by omega)
  obtain⟨v,f⟩:=ih2 (by omega)
  refine⟨_,fun z hy=>?_,b3I (by decide) (rs_do g.r f.r),.k (by decide) (g.b.app (.k (by decide) (.v (.inl rfl) hs f.b)))⟩
  obtain⟨l',b,rfl,hl⟩:=a1F hy;obtain⟨x',y',rfl,e1,e2⟩:=b49 hl
  exact ps_do (g.p _ e1) (f.p _ e2)
 | @dfr b a h ih =>
  intro hz
  simp only[SZ]at hz
  obtain⟨w,g⟩:=ih (by omega)
  refine⟨_,fun z hy=>?_,b3I (by decide) (rs_defer g.r),.k (by decide) g.b⟩
  obtain⟨l',b,rfl,hl⟩:=a1F hy;obtain⟨x',rfl,e1⟩:=a7A hl
  exact ps_defer (g.p _ e1)
 | @block l a h ih =>
  intro hz
  simp only[SZ]at hz
  obtain⟨vs,g⟩:=b0S ih (show szN l<=12000 by omega)
  have hl2:=a5q l
  refine⟨_,fun z hy=>?_,rb_block (g.imp fun _ _ _ h=>h.r) (by omega),.s (by decide) ((c1h (a6Z g fun _ _ h=>h.b)).app (.s (by decide) .nil)),rfl⟩
  obtain⟨l',b,rfl,hl⟩:=a1F hy
  exact pb_block (a4W (g.imp fun _ _ _ h=>h.p) hl)
 | @wild a =>
  intro _
  refine⟨[(1,[95])],fun z hy=>?_,rt_wild,.tok (.inr (.inr (.inr rfl))) .nil⟩
  obtain⟨l',b,rfl,hl⟩:=a1F hy;cases a3s hl;exact pp_wild
 | @bnd s a hs hn =>
  intro _
  refine⟨[(1,s)],fun z hy=>?_,rt_bind hn,.v (.inl rfl) hs .nil⟩
  obtain⟨l',b,rfl,hl⟩:=a1F hy;cases a3s hl;exact pp_bind
 | @pint s a h =>
  intro _
  refine⟨[(3,s)],fun z hy=>?_,rt_int (vo.d3 h),.v (.inr (.inr (.inl rfl))) h .nil⟩
  obtain⟨l',b,rfl,hl⟩:=a1F hy;cases a3s hl;exact pp_int (vo.n3 h)
 | @pneg s a h =>
  intro _
  refine⟨cond (decide (a0B s 0=0)) [(3,s)] [(8,[45]),(3,s)],fun z hy=>?_,?_,?_⟩
  ·obtain⟨l',b,rfl,hl⟩:=a1F hy;cases a3s hl;exact pp_neg (vo.n3 h)
  ·by_cases h0:a0B s 0=0
   ·rw[decide_eq_true h0,show w64 (0-((a0B s 0:Nat):Int)) =((a0B s 0:Nat):Int)by rw[h0];decide]
    exact rt_int (vo.d3 h)
   ·rw[decide_eq_false h0]
    exact rt_neg (vo.d3 h)
  ·by_cases h0:a0B s 0=0
   ·rw[decide_eq_true h0]
    exact .v (.inr (.inr (.inl rfl))) h .nil
   ·rw[decide_eq_false h0]
    exact .s (by decide) (.v (.inr (.inr (.inl rfl))) h .nil)
 | @ptru a =>
  intro _
  refine⟨_,fun z hy=>?_,rt_tru,.k (by decide) .nil⟩
  obtain⟨l',b,rfl,hl⟩:=a1F hy;cases a3s hl;exact pp_tru
 | @pfal a =>
  intro _
  refine⟨_,fun z hy=>?_,rt_fal,.k (by decide) .nil⟩
  obtain⟨l',b,rfl,hl⟩:=a1F hy;cases a3s hl;exact pp_fal
 | @ptext s a h =>
  intro _
  refine⟨[(4,s)],fun z hy=>?_,rt_text,.v (.inr (.inr (.inr rfl))) h .nil⟩
  obtain⟨l',b,rfl,hl⟩:=a1F hy;cases a3s hl;exact pp_text (vo.t4 h)
 | @pcase s l a hs h ih =>
  intro hz
  simp only[SZ]at hz
  obtain⟨vs,g⟩:=b0S ih (show szN l<=12000 by omega)
  have hl2:=a5q l
  by_cases h0:l=[]
  ·subst h0
   refine⟨[(8,[46]),(1,s)],fun z hy=>?_,rt_case0,.s (by decide) (.v (.inl rfl) hs .nil)⟩
   obtain⟨l',b,rfl,hl⟩:=a1F hy;cases a3s hl;exact pp_case0
  ·refine⟨_,fun z hy=>?_,rt_case1 h0 (g.imp fun _ _ _ h=>h.r) (by omega),.s (by decide) (.v (.inl rfl) hs (b1V (a6Z g fun _ _ h=>h.b)))⟩
   obtain⟨l',b,rfl,hl⟩:=a1F hy
   exact pp_case1 (fun e=>by subst e;exact h0 (a3s hl.symm)) (a4W (g.imp fun _ _ _ h=>h.p) hl)
 | @param s n t a hs hn ht =>
  intro hz
  simp only[SZ]at hz
  refine⟨pmw n ++((1,s) ::(8,[58])::W t),fun z hy=>?_,⟨s,n,t,a,rfl,hn,ht,by omega,rfl⟩,?_⟩
  ·obtain⟨l',b,rfl,hl⟩:=a1F hy;cases a3s hl
   rcases hn with rfl|rfl|rfl
   ·exact c4X
   ·exact c4Y
   ·exact c4Z
  ·have hb:Bal V ((1,s) ::(8,[58])::W t):=.v (.inl rfl) hs (.s (by decide) (b3S ht))
   rcases hn with rfl|rfl|rfl
   ·exact hb
   ·exact .k (by decide) hb
   ·exact .k (by decide) hb
 | @arm p b a h1 h2 ih1 ih2 =>
  intro hz
  simp only[SZ]at hz
  obtain⟨w,g⟩:=ih1 (by omega)
  obtain⟨v,f⟩:=ih2 (by omega)
  refine⟨_,fun z hy=>?_,⟨p,b,w,v,a,rfl,g.r,f.r,rfl⟩,.k (by decide) (g.b.app f.b)⟩
  obtain⟨l',b,rfl,hl⟩:=a1F hy;obtain⟨x',y',rfl,e1,e2⟩:=b49 hl
  exact pa_arm (g.p _ e1) (f.p _ e2)
 | _=>intro _;trivial
end
end Go.Proofs.YtjhfloacokgdiaaGreatDoor
