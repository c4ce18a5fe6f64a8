/- Texts of ParseTwice, joined. -/
import Derived.Test.YtjhfloacokgdiaaGreatDoorParseTwiceJ24
set_option maxRecDepth 100000
set_option maxHeartbeats 20000000
set_option linter.all false
namespace Go.Proofs.YtjhfloacokgdiaaGreatDoor
open Go Go.Vm Pr
variable {α:Type} {vs:List (List WK)} {bs gs rs th:List Nod} {ws:List Str} {l:List α} {S:List α->Nat} {n:Nat} {x:Nod} {F:α->List Str->Option (List Str)} {c:α->Nat}
def PQ {α:Type}(c:α->Nat)(F:α->List Str->Option (List Str))(x:α)(w:List WK):Prop:=w.length+1<=c x /\ ∀ws:List Str,ws.length+c x<=500001->F x ws=some (ws++sp w)
theorem b2e {α β:Type}{R:α->β->Prop}{f:α->β}:∀{l:List α},(∀x∈l,R x (f x))->V3 R l (l.map f)
 | [],_=>.nil
 | x::r,h=>.cons (h x (by simp)) (b2e fun y hy=>h y (by simp[hy]))
theorem ljw (hS:∀x r,S (x::r)=c x+S r){L:Nat->Int->List Str->Option (List Str)}(hl:l.length<=1000000000)
  (hL:∀m i ws,L (m+1) i ws=cond (ltB i (List.length l:Int)) ((idx' l i).bind fun x=>Option.bind (α:=List Str) (cond (ltB 0 i) ((j5 ([[44]]:List Str) ws).bind fun ws=>some ws) (some ws)) fun ws=>(F x ws).bind fun ws=>L m (w64 (i+1)) ws) (some ws)) (h:V3 (PQ c F) l vs) (hn:l.length<n) (hw:ws.length+S l<=500000):L n 0 ws=some (ws++sp (jo vs)):=by
 refine lp_j (R:=PQ c F) hS (fun x w h=>h.1) hl (fun m i x w ws hx hR e1 e2 e3 e4 hb=>?_) (fun m ws e=>?_) h hn hw
 ·have R:=hR.2;rw[hL,e1,e2];rcases e4 with⟨rfl,e4⟩ |⟨hi,e4⟩
  ·have R:=And.intro R (And.intro e4 e3);rw[if_pos rfl];exact prt
  ·have R:=And.intro R (And.intro e4 e3);rw[if_neg (by omega)];exact prt
 ·rw[hL,e];rfl
theorem pq_le (h0:S []=0)(hS:∀x r,S (x::r)=c x+S r)(h:V3 (PQ c F) l vs):(jo vs).length<=S l/\vs.flatten.length<=S l:=b4F (R:=PQ c F) h0 hS (fun x w h=>h.1) h
theorem c5R (l:List Typ):(jo (WW l)).length<=6*szT l:=by
 have h1:=b0P (WW l);have h2:=sumW l fun x _=>a4C x.sz x (Nat.le_refl _);omega
theorem lty_v {l:List Typ}(hn:3*szT l+10<=n)(hw:ws.length+9*szT l<=500000):Q0 n l ws=some (ws++sp (jo (WW l))):=by
 obtain⟨n,rfl⟩:∃m,n=m+1:=⟨n-1,by omega⟩
 have hl:=a5H l;have h:V3 (PQ (fun t:Typ=>9*t.sz) fun t ws=>H7 n t ws) l (WW l):=by
  rw[a5n];refine b2e fun t ht=>⟨by have:=a4C t.sz t (Nat.le_refl _);show(W t).length+1<=9*t.sz;omega,fun ws hw=>?_⟩
  have:=a3w ht;have:=t.b4l;exact typ_v (by omega) (by simp only at hw;omega)
 show a1r n (w9.fs n) l n 0 ws=_;exact ljw (S:=fun l=>9*szT l) (fun x r=>by simp only[szT];omega) (by omega) (fun m i ws=>rfl) h (by omega) hw
def bdw:List Nod->List WK | []=>[]|b::r=>(8,[58]) ::(2,b.s)::r.flatMap fun b=>[(8,[38]),(2,b.s)]
theorem c5s:∀l:List Nod,(bdw l).length<=2*l.length
 | []=>Nat.le_refl _
 | b::r=>by
  have:∀r:List Nod,(r.flatMap fun b=>[((8:Int),([38]:Str)),(2,b.s)]).length=2*r.length:=fun r=>by
   induction r with
   | nil=>rfl
   | cons x r ih=>rw[List.flatMap_cons,List.length_append,ih];simp only[List.length_cons,List.length_nil];omega
  simp only[bdw,List.length_cons,this];omega
theorem bd_lp {n:Nat}{x:Nod}(hx:x.l.length<=100000):∀(m i:Nat) (ws:List Str),x.l.length<m+i->i<=x.l.length->1<=i->ws.length+2*(x.l.length-i)<=500000->a0Z n x m i ws=some (ws++sp ((x.l.drop i).flatMap fun b=>[(8,[38]),(2,b.s)]))
 | 0,i,ws,h1,_,_,_=>by omega
 | m+1,i,ws,h1,h2,h3,h4=>by
  rw[a0Z.eq_2];rcases Nat.lt_or_ge i x.l.length with h|h
  ·rw[X6 (by omega),a0k h,drop_eq h,List.flatMap_cons,a1t (show ¬(i:Int)=0 by omega),H6 (show i<=1000000000000 by omega)];have R:=fun(ws:List Str) (hw:ws.length+2*(x.l.length-(i+1))<=500000)=>bd_lp (n:=n) hx m (i+1) ws (by omega) (by omega) (by omega) hw;exact prt
  ·rw[a0C (by omega),List.drop_eq_nil_of_le h];simp[sp]
theorem bd_v (hn:x.l.length+2<=n)(hx:x.l.length<=100000)(hw:ws.length+2*x.l.length<=500000):a1a n x ws=some (ws++sp (bdw x.l)):=by
 unfold a1a;obtain⟨m,rfl⟩:∃m,n=m+1:=⟨n-1,by omega⟩
 rw[a0Z.eq_2];have R:1<=x.l.length -> ∀ws:List Str,ws.length+2*(x.l.length-1)<=500000->a0Z (m+1) x m 1 ws=some (ws++sp ((x.l.drop 1).flatMap fun b=>[(8,[38]),(2,b.s)])):=fun h1 ws hw=>bd_lp (n:=m+1) hx m 1 ws (by omega) h1 (Nat.le_refl _) hw;cases e:x.l with
 | nil=>rw[a0C (by simp)];simp[bdw,sp]
 | cons b r =>
  rw[e]at R hw;rw[X6 (by simp only[List.length_cons];omega),show idx' (b::r) 0=some b from a0k (l:=b::r) (i:=0) (Nat.succ_pos _),a0z (rfl:(0:Int)=0),show w64 (0+1)=1 by decide];have R:=R (by simp only[List.length_cons];omega);simp only[List.drop_succ_cons,List.drop_zero,List.length_cons,Nat.add_sub_cancel]at R hw;unfold bdw;exact prt
def gw (g:Nod):List WK:=(2,g.s)::bdw g.l
def gnw (gs:List Nod):List WK:=match gs with
 | []=>[]
 | g::r=>(8,[60]) ::(jo ((g::r).map gw)++[(8,[62])])
theorem g_all (hn:szN gs+10<=n)(hz:szN gs<=20000):V3 (PQ (fun x:Nod=>8*x.sz) fun g ws=>a0A n g ws) gs (gs.map gw):=b2e fun g hg=>by
 have h1:=a1Q hg;have h2:=R9 g.l;have h3:=c5s g.l;have hs:=g.a3X;refine⟨by unfold gw;simp only[WL];omega,fun ws hw=>?_⟩;simp only at hw;have R:=fun(ws:List Str) (hw:ws.length+2*g.l.length<=500000)=>bd_v (n:=n) (x:=g) (ws:=ws) (by omega) (by omega) hw;show a0A n g ws=_;unfold a0A gw;exact prt
theorem c5L (hz:szN gs<=20000):(gnw gs).length<=8*szN gs+2:=by
 have:=(pq_le (S:=fun l=>8*szN l) rfl c8 (g_all (n:=szN gs+10) (Nat.le_refl _) hz)).1;cases gs with
 | nil=>simp[gnw]
 | cons g r=>unfold gnw;simp only[WL];omega
theorem gn_v (ho:a1J n x [8]=some gs)(hn:szN gs+10<=n)(hz:szN gs<=20000)(hw:ws.length+8*szN gs+4<=500000):a1f n x ws=some (ws++sp (gnw gs)):=by
 have hl:=a00 gs;have h:=g_all hn hz;have hj:=(pq_le (S:=fun l=>8*szN l) rfl c8 h).1;have R:=fun(ws:List Str) (hw:ws.length+8*szN gs<=500000)=>show a5G n gs ws=_ from ljw (S:=fun l=>8*szN l) (L:=fun m i ws=>a5M n gs m i ws) c8 (by omega) (fun m i ws=>rfl) h (n:=n) (by omega) hw;unfold a1f;rw[ho];cases gs with
 | nil=>simp[NF,gnw,sp,eqB]
 | cons g r =>
  have e:eqB ((g::r).length:Int) 0=false:=a1t (by simp only[List.length_cons];omega);unfold gnw;simp only[Option.bind_some,e];exact prt
def rqw (r:Nod):List WK:=W r.t++cond (eqB r.n 2) ((8,[61,61])::jo (WW r.ts)) [(8,[58]),(2,r.s)]
def whw (rs:List Nod):List WK:=match rs with
 | []=>[]
 | g::r=>(9,[119,104,101,114,101])::jo ((g::r).map rqw)
theorem c10 (x:Nod)(r:List Nod):(fun l=>10*szN l) (x::r) =(fun x=>10*x.sz) x+(fun l=>10*szN l) r:=by simp only[szN];omega
theorem r_all (hn:3*szN rs+20<=n)(hz:szN rs<=20000):V3 (PQ (fun x:Nod=>10*x.sz) fun g ws=>a1g n g ws) rs (rs.map rqw):=b2e fun g hg=>by
 have h1:=a1Q hg;have hs:=g.a3X;have h2:=a4C g.t.sz g.t (Nat.le_refl _);have h3:=c5R g.ts;refine⟨by unfold rqw;cases eqB g.n 2<;>simp only[NF,WL]<;>omega,fun ws hw=>?_⟩;simp only at hw;have R:=fun(ws:List Str) (hw:ws.length+9*szT g.ts<=500000)=>lty_v (n:=n) (l:=g.ts) (ws:=ws) (by omega) hw;show a1g n g ws=_;unfold a1g rqw;cases e:eqB g.n 2
 ·have R:=And.intro R e;exact prt
 ·have R:=And.intro R e;exact prt
theorem c6G (hz:szN rs<=20000):(whw rs).length<=10*szN rs+2:=by
 have:=(pq_le (S:=fun l=>10*szN l) rfl c10 (r_all (n:=3*szN rs+20) (Nat.le_refl _) hz)).1;cases rs with
 | nil=>simp[whw]
 | cons g r=>unfold whw;simp only[WL];omega
theorem wh_v (ho:a1J n x [12]=some rs)(hn:3*szN rs+20<=n)(hz:szN rs<=20000)(hw:ws.length+10*szN rs+4<=500000):a2b n x ws=some (ws++sp (whw rs)):=by
 have hl:=a00 rs;have h:=r_all hn hz;have hj:=(pq_le (S:=fun l=>10*szN l) rfl c10 h).1;have R:=fun(ws:List Str) (hw:ws.length+10*szN rs<=500000)=>show a4g n rs ws=_ from ljw (S:=fun l=>10*szN l) (L:=fun m i ws=>a4t n rs m i ws) c10 (by omega) (fun m i ws=>rfl) h (n:=n) (by omega) hw;unfold a2b;rw[ho];cases rs with
 | nil=>simp[NF,whw,sp,eqB]
 | cons g r =>
  have e:eqB ((g::r).length:Int) 0=false:=a1t (by simp only[List.length_cons];omega);unfold whw;simp only[Option.bind_some,e];exact prt
def thw (th:List Nod):List WK:=match th with
 | []=>[]
 | x::_=>(9,[116,104,114,111,119,115]) ::(8,[40]) ::(W x.t++[(8,[41])])
theorem thw_len:(thw th).length<=8*szN th:=by
 cases th with
 | nil=>simp[thw]
 | cons x r =>
  have h2:=a4C x.t.sz x.t (Nat.le_refl _);have hs:=x.a3X;unfold thw;simp only[WL,szN];omega
theorem th_v (ht:th.length<=1)(hn:3*szN th+20<=n)(hw:ws.length+8*szN th+8<=500000):Z5 n n th (List.length th:Int) 0 ws=some (ws++sp (thw th)):=by
 obtain⟨m,rfl⟩:∃m,n=m+2:=⟨n-2,by omega⟩
 rcases th with _ |⟨x,_ |⟨y,r⟩⟩
 ·rw[Z5.eq_2,a0C (by simp)];simp[thw,sp,NF]
 ·have hs:=x.a3X;have h2:=a4C x.t.sz x.t (Nat.le_refl _);simp only[szN]at hn hw;rw[Z5.eq_2,X6 (by simp),show idx' [x] 0=some x from a0k (l:=[x]) (i:=0) Nat.zero_lt_one,show w64 (0+1)=1 by decide];have R:∀ws:List Str,Z5 (m+2) (m+1) [x] ((List.length [x]:Nat):Int) 1 ws=some ws:=fun ws=>by
   rw[Z5.eq_2,a0C (by simp)];rfl
  unfold thw;exact prt
 ·simp only[List.length_cons]at ht;omega
def PFn (x:Nod)(w:List WK):Prop:=w.length+1<=10*x.sz /\ ∀n ws,20*x.sz+60<=n->ws.length+10*x.sz<=500000->X5 n x ws=some (ws++sp w)
def sgw (s:Str)(t:Typ)(gs:List Nod)(us:List (List WK))(th rs:List Nod):List WK:=(9,[102,117,110,99]) ::(1,s) ::(gnw gs ++(cw us ++(thw th ++(rsw t++whw rs))))
theorem fop {l:List Nod}{c:Int}(h:∀y∈l,y.op=c)(o:Int):l.filter (fun y=>eqB y.op o)=if c=o then l else []:=by
 split
 ·rename_i e;exact List.filter_eq_self.2 fun y hy=>a0z ((h y hy).trans e)
 ·rename_i e;exact List.filter_eq_nil_iff.2 fun y hy=>by rw[a1t (by rw[h y hy];exact e)];simp
theorem put1 {v:List WK}(hb:V3 PB bs [v])(hn:20*szN bs+20<=n)(hw:ws.length+8*szN bs<=500000):a04 n bs n 0 ws=some (ws++sp v):=by
 obtain⟨m,rfl⟩:∃m,n=m+2:=⟨n-2,by omega⟩
 cases hb with
 | @cons b _ l _ h1 h2 =>
  cases h2;simp only[szN]at hn hw;have e:I4 (m+2) b ws=some (ws++sp v):=h1.2 (m+2) ws (by omega) (by omega);rw[a04.eq_2,X6 (by simp),show idx' [b] 0=some b from a0k (l:=[b]) (i:=0) Nat.zero_lt_one,show w64 (0+1)=1 by decide];simp only[NF,e];rw[a04.eq_2,a0C (by simp)];rfl
theorem px_fn {s:Str}{o:Int}{t:Typ}{ps:List Nod}{us:List (List WK)}{a:Int}(hg:∀y∈gs,y.op=8)(hp:∀y∈ps,y.op=10)(ht:∀y∈th,y.op=11)(hl:th.length<=1)(hr:∀y∈rs,y.op=12)(hb:∀y∈bs,y.op=20)
  (hps:V3 PM ps us) (hbs:V3 PB bs vs) (ho:o=1/\bs.length=1∨o=0/\bs=[]) (hz:szN (gs ++(ps ++(th++rs))++bs)<=13000):PFn ⟨7,s,o,t,[],gs ++(ps ++(th++rs))++bs,a⟩ (sgw s t gs us th rs++cond (decide (o=1)) vs.flatten [(8,[59])]):=by
 have e0:=a00 gs;have e1:=a00 ps;have e2:=a00 th;have e3:=a00 rs;have e4:=a00 bs;simp only[SZ]at hz;have l1:=c5L (gs:=gs) (by omega);have l2:=(b3o hps).1;have l3:=thw_len (th:=th);have l4:=(rsw_v (t:=t)).1;have l5:=c6G (rs:=rs) (by omega);have l6:=(b4F (R:=PB) (c:=fun x=>8*x.sz) (S:=fun l=>8*szN l) rfl c8 (fun x w h=>h.1) hbs).2;have tp:=t.b4l;refine⟨?_,fun n ws hn hw=>?_⟩
 ·unfold sgw;rcases ho with⟨rfl,hb1⟩ |⟨rfl,rfl⟩<;>simp only[SZ,WL,NF,Int.reduceEq,decide_true,decide_false]<;>omega
 ·simp only[SZ]at hn hw;have hlen:(gs ++(ps ++(th++rs))++bs).length<=13000:=by simp only[List.length_append];omega
  have of:=fun q=>ofs (n:=n) (x:=⟨7,s,o,t,[],gs ++(ps ++(th++rs))++bs,a⟩) (o:=q) (by show(gs ++(ps ++(th++rs))++bs).length+3<=n;simp only[List.length_append];omega) (by show(gs ++(ps ++(th++rs))++bs).length<=_;omega);simp only[List.filter_append,fop hg,fop hp,fop ht,fop hr,fop hb]at of;have x1:(⟨7,s,o,t,[],gs ++(ps ++(th++rs))++bs,a⟩:Nod).s=s/\(⟨7,s,o,t,[],gs ++(ps ++(th++rs))++bs,a⟩:Nod).t=t/\(⟨7,s,o,t,[],gs ++(ps ++(th++rs))++bs,a⟩:Nod).n=o:=⟨rfl,rfl,rfl⟩
  generalize (⟨7,s,o,t,[],gs ++(ps ++(th++rs))++bs,a⟩:Nod)=x at of x1 ⊢;have o1:=of 8;have o2:=of 10;have o3:=of 11;have o4:=of 12;have o5:=of 20;simp only[Int.reduceEq,if_true,if_false,List.append_nil,List.nil_append]at o1 o2 o3 o4 o5;have R1:=fun(ws:List Str) (hw:ws.length+8*szN gs+4<=500000)=>gn_v (n:=n) (ws:=ws) o1 (by omega) (by omega) hw;have R2:=fun(ws:List Str) (hw:ws.length+8*szN ps+4<=500000)=>(b3o hps).2 n ws (by omega) hw (by omega);have R3:=fun(ws:List Str) (hw:ws.length+8*szN th+8<=500000)=>th_v (n:=n) hl (ws:=ws) (by omega) hw;have R4:=fun(ws:List Str) (hw:ws.length+8*t.sz+1<=500000)=>(rsw_v (t:=t)).2 n ws (by omega) hw;have R5:=fun(ws:List Str) (hw:ws.length+10*szN rs+4<=500000)=>wh_v (n:=n) (ws:=ws) o4 (by omega) (by omega) hw;unfold X5 sgw;rcases ho with⟨rfl,hb1⟩ |⟨rfl,rfl⟩
  ·obtain⟨v,rfl⟩:∃v,vs=[v]:=by
    have:=hbs.len;rcases vs with _ |⟨v,_ |⟨w,r⟩⟩
    ·simp only[List.length_nil]at this;omega
    ·exact⟨v,rfl⟩
    ·simp only[List.length_cons]at this;omega
   have R6:=fun(ws:List Str) (hw:ws.length+8*szN bs<=500000)=>put1 (n:=n) hbs (by omega) hw;have R:=And.intro x1 (And.intro o2 (And.intro o3 (And.intro o5 (And.intro R1 (And.intro R2 (And.intro R3 (And.intro R4 (And.intro R5 R6))))))));simp only[List.flatten_cons,List.flatten_nil,List.append_nil];exact prt
  ·have R:=And.intro x1 (And.intro o2 (And.intro o3 (And.intro R1 (And.intro R2 (And.intro R3 (And.intro R4 R5))))));exact prt
variable {a o:Int} {vs:List (List WK)} {ops:List Int} {l:List Nod} {n:Nat} {F:Nat->Nod->List Str->Option (List Str)} {x:Nod} {s:Str} {t:Typ}
def PZ (F:Nat->Nod->List Str->Option (List Str))(x:Nod)(w:List WK):Prop:=w.length+1<=10*x.sz /\ ∀n ws,20*x.sz+60<=n->ws.length+10*x.sz<=500000->F n x ws=some (ws++sp w)
theorem pz_le (h:V3 (PZ F) l vs):vs.flatten.length<=10*szN l:=(b4F (R:=PZ F) (S:=fun l=>10*szN l) rfl c10 (fun x w h=>h.1) h).2
theorem lfw (h:V3 (PZ F) l vs){L:Nat->Int->List Str->Option (List Str)}(hL:∀m i ws,L (m+1) i ws=cond (ltB i (List.length l:Int)) (Option.bind (α:=List Str) ((idx' l i).bind fun x=>F n x ws) fun ws=>L m (w64 (i+1)) ws) (some ws)){ws:List Str}(hn:20*szN l+60<=n)(hw:ws.length+10*szN l<=500000):L n 0 ws=some (ws++sp vs.flatten):=by
 have hl:=a00 l;refine lp_f (R:=PZ F) (c:=fun x=>10*x.sz) (S:=fun l=>10*szN l) (fin:=some) c10 (fun x w h=>h.1) (by omega) (fun m i x w ws hx hR e1 e2 e3 hb=>?_) (fun m ws e=>?_) h (by omega) hw
 ·have:=a1Q hx;rw[hL,e1,e2];simp only[NF,hR.2 n ws (by omega) hb,e3]
 ·rw[hL,e];rfl
theorem pm_fld (ho:o=0∨o=1):PZ J9 ⟨13,s,o,t,[],[],a⟩ ((9,cond (decide (o=1)) [118,97,114] [108,101,116]) ::(1,s) ::(8,[58]) ::(W t++[(8,[59])])):=by
 have t0:=a4C t.sz t (Nat.le_refl _);refine⟨by simp only[SZ,WL]at *;omega,fun n ws hn hw=>?_⟩;simp only[SZ]at hn hw;have R:=True.intro;unfold J9;rcases ho with rfl|rfl<;>exact prt
def csw (ts:List Typ):List WK:=match ts with
 | []=>[]
 | t::r=>(8,[40]) ::(jo (WW (t::r))++[(8,[41])])
theorem pm_case {ts:List Typ}(ho:o=0∨o=1):PZ J9 ⟨14,s,o,zT,ts,[],a⟩ (cond (decide (o=1)) [(9,[105,110,100,105,114,101,99,116])] [] ++((9,[99,97,115,101]) ::(1,s) ::(csw ts++[(8,[59])]))):=by
 have t0:=c5R ts;have l0:(csw ts).length<=6*szT ts+2:=by
  cases ts with
  | nil=>simp[csw]
  | cons t r=>unfold csw;simp only[WL];omega
 refine⟨by rcases ho with rfl|rfl<;>simp only[SZ,WL,NF,Int.reduceEq,decide_true,decide_false]<;>omega,fun n ws hn hw=>?_⟩;simp only[SZ]at hn hw;have R0:=fun(ws:List Str) (hw:ws.length+9*szT ts<=500000)=>lty_v (n:=n) (l:=ts) (ws:=ws) (by omega) hw;unfold J9;cases ts with
 | nil =>
  have R:ltB 0 ((([]:List Typ).length:Nat):Int)=false:=a0C (by simp);unfold csw;rcases ho with rfl|rfl<;>exact prt
 | cons t r =>
  have R:=And.intro R0 (show ltB 0 (((t::r).length:Nat):Int)=true from X6 (by simp only[List.length_cons];omega));unfold csw;rcases ho with rfl|rfl<;>exact prt
theorem pm_dei {b:Nod}{v:List WK}(h:PB b v):PZ J9 ⟨15,[],0,zT,[],[b],a⟩ ((9,[100,101,105,110,105,116])::v):=by
 have t0:=h.1;refine⟨by simp only[SZ,WL]at *;omega,fun n ws hn hw=>?_⟩;simp only[SZ]at hn hw;have R:=fun(ws:List Str) (hw:ws.length+8*b.sz<=500001)=>show I4 n b ws=_ from h.2 n ws (by omega) hw;unfold J9;exact prt
def itP (n:Nat)(x:Nod)(ws:List Str):Option (List Str):=cond (eqB x.op 16) ((j5 ([[116,121,112,101],x.s]:List Str) ws).bind fun ws=>(a1a n x ws).bind fun ws=>(j5 ([[59]]:List Str) ws).bind fun ws=>some ws) ((X5 n x ws).bind fun ws=>some ws)
def itE (n:Nat)(x:Nod)(ws:List Str):Option (List Str):=cond (eqB x.op 17) ((j5 ([[116,121,112,101],x.s,[61]]:List Str) ws).bind fun ws=>(H7 n x.t ws).bind fun ws=>(j5 ([[59]]:List Str) ws).bind fun ws=>some ws) ((X5 n x ws).bind fun ws=>some ws)
theorem pi_assoc:PZ itP ⟨16,s,0,zT,[],l,a⟩ ((9,[116,121,112,101]) ::(2,s) ::(bdw l++[(8,[59])])):=by
 have h2:=R9 l;have h3:=c5s l;refine⟨by simp only[SZ,WL]at *;omega,fun n ws hn hw=>?_⟩;simp only[SZ]at hn hw;have R:=fun(ws:List Str) (hw:ws.length+2*l.length<=500000)=>bd_v (n:=n) (x:=⟨16,s,0,zT,[],l,a⟩) (ws:=ws) (by simp only;omega) (by simp only;omega) hw;unfold itP;exact prt
theorem pi_alias:PZ itE ⟨17,s,0,t,[],[],a⟩ ((9,[116,121,112,101]) ::(2,s) ::(8,[61]) ::(W t++[(8,[59])])):=by
 have t0:=a4C t.sz t (Nat.le_refl _);refine⟨by simp only[SZ,WL]at *;omega,fun n ws hn hw=>?_⟩;simp only[SZ]at hn hw;have R:=True.intro;unfold itE;exact prt
theorem pi_fn {w:List WK}(ho:x.op=7)(h:PFn x w):PZ itP x w/\PZ itE x w:=by
 refine⟨⟨h.1,fun n ws hn hw=>?_⟩,⟨h.1,fun n ws hn hw=>?_⟩⟩
 ·unfold itP;rw[ho,a1t (by decide),h.2 n ws hn hw];rfl
 ·unfold itE;rw[ho,a1t (by decide),h.2 n ws hn hw];rfl
theorem l6_v (ho:ops=[13,14,15]∨ops=[17,7]){y:Nod}{r:List Nod}{xi:Int}(hn:5<=n)(hr:r.length<=1000000000):a5Z n ops y n r xi 0=some (r ++(if y.op∈ops then [y]else []),xi):=by
 obtain⟨q,rfl⟩:∃q,n=q+4:=⟨n-4,by omega⟩
 have hw:w64 (0+1)=1/\w64 (1+1)=2/\w64 (2+1)=3:=⟨by decide,by decide,by decide⟩
 have ha:=app144 (l:=r) (m:=[y]) (by omega) (by simp);rcases ho with rfl|rfl
 ·have c:ltB 0 ((([13,14,15]:List Int).length:Nat):Int)=true/\ltB 1 ((([13,14,15]:List Int).length:Nat):Int)=true/\ltB 2 ((([13,14,15]:List Int).length:Nat):Int)=true/\ltB 3 ((([13,14,15]:List Int).length:Nat):Int)=false:=⟨X6 (by decide),X6 (by decide),X6 (by decide),a0C (by decide)⟩
  have i:idx' ([13,14,15]:List Int) 0=some 13/\idx' ([13,14,15]:List Int) 1=some 14/\idx' ([13,14,15]:List Int) 2=some 15:=⟨a0k (l:=[13,14,15]) (i:=0) (by decide),a0k (l:=[13,14,15]) (i:=1) (by decide),a0k (l:=[13,14,15]) (i:=2) (by decide)⟩
  simp only[a5Z.eq_2,c,i,NF,hw,a9m,List.mem_cons,List.not_mem_nil,or_false];by_cases h1:y.op=13
  ·simp only[h1,Int.reduceEq,decide_true,decide_false,NF,ha,true_or,if_true]
  ·by_cases h2:y.op=14
   ·simp only[h2,Int.reduceEq,decide_true,decide_false,NF,ha,true_or,or_true,if_true]
   ·by_cases h3:y.op=15
    ·simp only[h3,Int.reduceEq,decide_true,decide_false,NF,ha,or_true,if_true]
    ·simp only[h1,h2,h3,decide_false,NF,or_self,if_false,List.append_nil]
 ·have c:ltB 0 ((([17,7]:List Int).length:Nat):Int)=true/\ltB 1 ((([17,7]:List Int).length:Nat):Int)=true/\ltB 2 ((([17,7]:List Int).length:Nat):Int)=false:=⟨X6 (by decide),X6 (by decide),a0C (by decide)⟩
  have i:idx' ([17,7]:List Int) 0=some 17/\idx' ([17,7]:List Int) 1=some 7:=⟨a0k (l:=[17,7]) (i:=0) (by decide),a0k (l:=[17,7]) (i:=1) (by decide)⟩
  simp only[a5Z.eq_2,c,i,NF,hw,a9m,List.mem_cons,List.not_mem_nil,or_false];by_cases h1:y.op=17
  ·simp only[h1,Int.reduceEq,decide_true,decide_false,NF,ha,true_or,if_true]
  ·by_cases h2:y.op=7
   ·simp only[h2,Int.reduceEq,decide_true,decide_false,NF,ha,or_true,if_true]
   ·simp only[h1,h2,decide_false,NF,or_self,if_false,List.append_nil]
theorem ofm_l {n:Nat}{x:Nod}{ops:List Int}(ho:ops=[13,14,15]∨ops=[17,7])(hn:5<=n)(hL:x.l.length<=100000000):∀(m i:Nat) (r:List Nod),x.l.length<m+i->i<=x.l.length->r.length<=i->a5Y n x ops m r i=some (r ++(x.l.drop i).filter fun y=>decide (y.op∈ops))
 | 0,_,_,_,_,_=>by omega
 | m+1,i,r,h1,h2,h3=>by
  rw[a5Y.eq_2];rcases Nat.lt_or_ge i x.l.length with h|h
  ·rw[X6 (by omega),a0k h,drop_eq h];simp only[NF,l6_v ho hn (show r.length<=1000000000 by omega),H6 (show i<=1000000000000 by omega),List.filter_cons];by_cases hb:x.l[i].op∈ops
   ·rw[if_pos hb,ofm_l ho hn hL m (i+1) _ (by omega) (by omega) (by simp;omega),if_pos (by simpa using hb)];simp
   ·rw[if_neg hb,ofm_l ho hn hL m (i+1) _ (by omega) (by omega) (by simp;omega),if_neg (by simpa using hb)];simp
  ·rw[a0C (by omega),List.drop_of_length_le h];simp
theorem ofm (ho:ops=[13,14,15]∨ops=[17,7])(hn:x.l.length+5<=n)(hL:x.l.length<=100000000){a b:List Nod}(e:x.l=a++b)(ha:∀y∈a,y.op ∉ ops)(hb:∀y∈b,y.op∈ops):a1J n x ops=some b:=by
 unfold a1J;have h1:=ofm_l (n:=n) (x:=x) ho (by omega) hL n 0 [] (by omega) (Nat.zero_le _) (Nat.le_refl _);simp only[List.drop_zero,List.nil_append,Int.natCast_zero]at h1;rw[h1,e,List.filter_append,List.filter_eq_nil_iff.2 fun y hy=>by simpa using ha y hy,List.filter_eq_self.2 fun y hy=>by simpa using hb y hy];rfl
variable {a k o:Int} {vs:List (List WK)} {ms:List Nod} {s:Str}
def mdw (o:Int):List WK:=cond (decide (o=1∨o=3)) [(9,[109,111,118,101,111,110,108,121])] []++cond (decide (o=2∨o=3)) [(9,[102,114,111,122,101,110])] []
def tyw (k:Int):Str:=cond (decide (k=4)) [99,108,97,115,115] (cond (decide (k=3)) [101,110,117,109] [115,116,114,117,99,116])
theorem tyw_v (hk:k=2∨k=3∨k=4):((mget eqB k (b57 eqB 4 [99,108,97,115,115] (b57 eqB 3 [101,110,117,109] (b57 eqB 2 [115,116,114,117,99,116] [])))).getD []:Str)=tyw k:=by
 rcases hk with rfl|rfl|rfl<;>simp[mget,b57,eqB,tyw]
theorem mod_v {n:Nat}(ho:o=0∨o=1∨o=2∨o=3){ws:List Str}(hw:ws.length<=500000){β:Type}(f:List Str->Option β):(Option.bind (α:=List Str) (cond (!eqB (IntKind.wrap .i64 ((BitVec.ofInt 64 o &&& BitVec.ofInt 64 1).toNat:Nat)) 0) ((j5 ([[109,111,118,101,111,110,108,121]]:List Str) ws).bind fun ws=>some ws) (some ws)) fun ws=>Option.bind (α:=List Str) (cond (!eqB (IntKind.wrap .i64 ((BitVec.ofInt 64 o &&& BitVec.ofInt 64 2).toNat:Nat)) 0) ((j5 ([[102,114,111,122,101,110]]:List Str) ws).bind fun ws=>some ws) (some ws)) f)=f (ws++sp (mdw o)):=by
 obtain⟨⟨b1,b2,b3,b4⟩,b5,b6,b7,b8⟩:=bit_v;rcases ho with rfl|rfl|rfl|rfl
 ·rw[b1,b5];simp[NF,mdw,sp]
 ·rw[b2];simp only[NF,b6,b2T (show ws.length+[[109,111,118,101,111,110,108,121]].length<=1000000 by simp only[List.length_singleton];omega)];rfl
 ·rw[b3];simp only[NF,b7,b2T (show ws.length+[[102,114,111,122,101,110]].length<=1000000 by simp only[List.length_singleton];omega)];rfl
 ·rw[b4];simp only[NF,b8,b2T (show ws.length+[[109,111,118,101,111,110,108,121]].length<=1000000 by simp only[List.length_singleton];omega)];rw[b2T (by simp only[List.length_append,List.length_singleton];omega)];simp[mdw,sp,spl]
theorem pd_type {gs:List Nod}(hk:k=2∨k=3∨k=4)(ho:o=0∨o=1∨o=2∨o=3)(hg:∀y∈gs,y.op=8)(hm:∀y∈ms,y.op∈([13,14,15]:List Int))(h:V3 (PZ J9) ms vs)(hz:szN (gs++ms)<=13000):PZ I5 ⟨k,s,o,zT,[],gs++ms,a⟩ (mdw o ++((9,tyw k) ::(2,s) ::(gnw gs ++((8,[123]) ::(vs.flatten++[(8,[125])]))))):=by
 have e0:=a00 gs;have e1:=a00 ms;simp only[SZ]at hz;have l1:=c5L (gs:=gs) (by omega);have l2:=pz_le h;have l3:(mdw o).length<=2:=by rcases ho with rfl|rfl|rfl|rfl<;>simp[mdw]
 refine⟨by simp only[SZ,WL];omega,fun n ws hn hw=>?_⟩;simp only[SZ]at hn hw;have o1:=ofs (n:=n) (x:=⟨k,s,o,zT,[],gs++ms,a⟩) (o:=8) (by show(gs++ms).length+3<=n;simp only[List.length_append];omega) (by show(gs++ms).length<=_;simp only[List.length_append];omega);have o2:a1J n ⟨k,s,o,zT,[],gs++ms,a⟩ [13,14,15]=some ms:=ofm (.inl rfl) (by show(gs++ms).length+5<=n;simp only[List.length_append];omega) (by show(gs++ms).length<=_;simp only[List.length_append];omega) rfl (fun y hy=>by rw[hg y hy];decide) hm;have fm:ms.filter (fun y=>eqB y.op 8)=[]:=List.filter_eq_nil_iff.2 fun y hy=>by
  have:=hm y hy;rw[a1t (fun e=>by rw[e]at this;revert this;decide)];simp
 simp only[List.filter_append,fop hg,fm,if_true,List.append_nil]at o1;have x1:(⟨k,s,o,zT,[],gs++ms,a⟩:Nod).s=s/\(⟨k,s,o,zT,[],gs++ms,a⟩:Nod).op=k/\(⟨k,s,o,zT,[],gs++ms,a⟩:Nod).n=o:=⟨rfl,rfl,rfl⟩
 generalize (⟨k,s,o,zT,[],gs++ms,a⟩:Nod)=x at o1 o2 x1 ⊢;have R1:=fun(ws:List Str) (hw:ws.length+8*szN gs+4<=500000)=>gn_v (n:=n) (ws:=ws) o1 (by omega) (by omega) hw;have R2:=fun(ws:List Str) (hw:ws.length+10*szN ms<=500000)=>show Y2 n n ms (List.length ms:Int) 0 ws=_ from lfw h (n:=n) (L:=fun m i ws=>Y2 n m ms (List.length ms:Int) i ws) (fun m i ws=>by
  show Y2 n (m+1) ms (List.length ms:Int) i ws=_;rw[Y2.eq_2];cases ltB i (List.length ms:Int)
  ·rfl
  ·simp only[NF]) (by omega) hw
 have hm1:=fun{β:Type} (f:List Str->Option β)=>mod_v (n:=n) ho (show ws.length<=500000 by omega) f;have hb:(cond (eqB k 2) (some (eqB k 2)) (cond (eqB k 3) (some (eqB k 3)) (some (eqB k 4))):Option Bool)=some true:=by rcases hk with rfl|rfl|rfl<;>simp[eqB]
 unfold I5;rw[x1.2.1,x1.2.2,hb,x1.1];simp only[Option.bind_some,cond_true];rw[hm1,tyw_v hk];have R:=And.intro o2 (And.intro R1 R2);exact prt
theorem pd_prot {l:List Nod}(h:V3 (PZ itP) l vs):PZ I5 ⟨5,s,0,zT,[],l,a⟩ ((9,[112,114,111,116,111,99,111,108]) ::(2,s) ::(8,[123]) ::(vs.flatten++[(8,[125])])):=by
 have l2:=pz_le h;refine⟨by simp only[SZ,WL];omega,fun n ws hn hw=>?_⟩;simp only[SZ]at hn hw;have R:=fun(ws:List Str) (hw:ws.length+10*szN l<=500000)=>show a1o n ⟨5,s,0,zT,[],l,a⟩ n 0 ws=_ from lfw h (n:=n) (L:=fun m i ws=>a1o n ⟨5,s,0,zT,[],l,a⟩ m i ws) (fun m i ws=>rfl) (by omega) hw;unfold I5;exact prt
theorem pd_ext {t:Typ}{rs:List Nod}(hr:∀y∈rs,y.op=12)(hm:∀y∈ms,y.op∈([17,7]:List Int))(h:V3 (PZ itE) ms vs)(hz:szN (rs++ms)<=13000):PZ I5 ⟨6,s,0,t,[],rs++ms,a⟩ ((9,[101,120,116,101,110,100]) ::(W t ++((8,[58]) ::(2,s) ::(whw rs ++((8,[123]) ::(vs.flatten++[(8,[125])])))))):=by
 have e0:=a00 rs;have e1:=a00 ms;simp only[SZ]at hz;have l1:=c6G (rs:=rs) (by omega);have l2:=pz_le h;have t0:=a4C t.sz t (Nat.le_refl _);refine⟨by simp only[SZ,WL];omega,fun n ws hn hw=>?_⟩;simp only[SZ]at hn hw;have o1:=ofs (n:=n) (x:=⟨6,s,0,t,[],rs++ms,a⟩) (o:=12) (by show(rs++ms).length+3<=n;simp only[List.length_append];omega) (by show(rs++ms).length<=_;simp only[List.length_append];omega);have o2:a1J n ⟨6,s,0,t,[],rs++ms,a⟩ [17,7]=some ms:=ofm (.inr rfl) (by show(rs++ms).length+5<=n;simp only[List.length_append];omega) (by show(rs++ms).length<=_;simp only[List.length_append];omega) rfl (fun y hy=>by rw[hr y hy];decide) hm;have fm:ms.filter (fun y=>eqB y.op 12)=[]:=List.filter_eq_nil_iff.2 fun y hy=>by
  have:=hm y hy;rw[a1t (fun e=>by rw[e]at this;revert this;decide)];simp
 simp only[List.filter_append,fop hr,fm,if_true,List.append_nil]at o1;have x1:(⟨6,s,0,t,[],rs++ms,a⟩:Nod).s=s/\(⟨6,s,0,t,[],rs++ms,a⟩:Nod).op=6/\(⟨6,s,0,t,[],rs++ms,a⟩:Nod).t=t:=⟨rfl,rfl,rfl⟩
 generalize (⟨6,s,0,t,[],rs++ms,a⟩:Nod)=x at o1 o2 x1 ⊢;have R1:=fun(ws:List Str) (hw:ws.length+10*szN rs+4<=500000)=>wh_v (n:=n) (ws:=ws) o1 (by omega) (by omega) hw;have R2:=fun(ws:List Str) (hw:ws.length+10*szN ms<=500000)=>show a1p n ms n 0 ws=_ from lfw h (n:=n) (L:=fun m i ws=>a1p n ms m i ws) (fun m i ws=>rfl) (by omega) hw;unfold I5;have R:=And.intro x1 (And.intro o2 (And.intro R1 R2));exact prt
theorem pd_fn {x:Nod}{w:List WK}(ho:x.op=7)(h:PFn x w):PZ I5 x w:=by
 refine⟨h.1,fun n ws hn hw=>?_⟩;unfold I5;rw[ho,h.2 n ws hn hw];simp only[a9m,Int.reduceEq,decide_true,decide_false,NF]
end Go.Proofs.YtjhfloacokgdiaaGreatDoor
