/- Texts of ParseTwice, joined. -/
import Derived.Test.YtjhfloacokgdiaaGreatDoorParseTwiceJ25
import Derived.KernelRfl
set_option maxRecDepth 100000
set_option maxHeartbeats 20000000
set_option linter.all false
namespace Go.Proofs.YtjhfloacokgdiaaGreatDoor
open Go Go.Vm Pr
variable {k:Nat} {b:Nod}
theorem g7_inv {V:Int->Str->Prop}(h:G V 7 b):∃s a,b =⟨9,s,0,zT,[],[],a⟩:=by
 cases h with
 | bound hs=>exact⟨_,_,rfl⟩
section
variable {V:Int->Str->Prop} {l:List Tok} {size:Int} {n:Nat} {rest:List WK}
theorem bnd_lp (hr:nx rest 8 [38]=false):∀(bs:List Nod) (b:Nod),(∀y∈b::bs,G V 7 y) -> ∀(m:Nat),bs.length<m -> ∀(k:Nat) (acc:List Nod),At l k ((2,b.s) ::(bs.flatMap (fun b=>[((8:Int),([38]:Str)),(2,b.s)])++rest))->acc.length+bs.length<=9000->S1 (RL_ mkR l (acc++b::bs) rest) (a0s n size l m acc k)
 | [],b,hG,m,hm,k,acc,h,ha=>by
  obtain⟨m,rfl⟩:∃q,m=q+1:=⟨m-1,by omega⟩
  obtain⟨s,a,rfl⟩:=g7_inv (hG b (by simp));have h:At l k ((2,s)::rest):=h;have hk:=h.le;rw[a0s.eq_2];exact rdk
 | b2::bs,b,hG,m,hm,k,acc,h,ha=>by
  obtain⟨m,rfl⟩:∃q,m=q+1:=⟨m-1,by omega⟩
  obtain⟨s,a,rfl⟩:=g7_inv (hG b (by simp));have h:At l k ((2,s) ::(8,[38]) ::(2,b2.s) ::(bs.flatMap (fun b=>[((8:Int),([38]:Str)),(2,b.s)])++rest)):=by simpa using h
  have hk:=h.le;have ih:=bnd_lp hr bs b2 (fun y hy=>hG y (by simp only[List.mem_cons]at hy ⊢;exact .inr hy)) m (by simp only[List.length_cons]at hm;omega);rw[a0s.eq_2];exact rdk
theorem b5q {bs:List Nod}(hG:∀y∈bs,G V 7 y)(hz:bs.length<=8000)(hn:100000<=n)(h:At l k (bdw bs++rest))(hr:nx rest 8 [38]=false/\nx rest 8 [58]=false):S1 (RL_ mkR l bs rest) (a0D n l k size):=by
 unfold a0D;have hk:=h.le;obtain⟨hr1,hr2⟩:=hr;cases bs with
 | nil =>
  have h:At l k rest:=h;exact rdk
 | cons b bs =>
  have h:At l k ((8,[58]) ::(2,b.s) ::(bs.flatMap (fun b=>[((8:Int),([38]:Str)),(2,b.s)])++rest)):=h;have ih:=bnd_lp (l:=l) (size:=size) (n:=n) hr1 bs b hG n (by simp only[List.length_cons]at hz;omega);exact rdk
theorem g8_inv (h:G V 8 b):∃s l a,b =⟨8,s,0,zT,[],l,a⟩ /\ ∀y∈l,G V 7 y:=by
 cases h with
 | gen hs hl=>exact⟨_,_,_,rfl,hl⟩
theorem gns_lp (hn:100000<=n):∀(gs:List Nod) (g:Nod),(∀y∈g::gs,G V 8 y/\y.sz<=13000) -> ∀(m:Nat),gs.length<m -> ∀(k:Nat) (acc:List Nod),At l k (gw g ++(cm (gs.map gw) ++((8,[62])::rest)))->acc.length+gs.length<=9000->S1 (RL_ mkB l (acc++g::gs) ((8,[62])::rest)) (Y9 n size l m acc k)
 | [],b,hG,m,hm,k,acc,h,ha=>by
  obtain⟨m,rfl⟩:∃q,m=q+1:=⟨m-1,by omega⟩
  obtain⟨⟨s,bs,a,rfl,hb⟩,hz⟩:=(hG b (by simp)).imp g8_inv id;have h:At l k ((2,s) ::(bdw bs ++((8,[62])::rest))):=h;have hk:=h.le;simp only[SZ]at hz;have hl2:=R9 bs;have ls1:=fun{k:Nat} (h:At l k (bdw bs ++((8,[62])::rest)))=>b5q (size:=size) (n:=n) hb (by omega) hn h ⟨rfl,rfl⟩;rw[Y9.eq_2];exact rdk
 | b2::gs,b,hG,m,hm,k,acc,h,ha=>by
  obtain⟨m,rfl⟩:∃q,m=q+1:=⟨m-1,by omega⟩
  obtain⟨⟨s,bs,a,rfl,hb⟩,hz⟩:=(hG b (by simp)).imp g8_inv id;have h:At l k ((2,s) ::(bdw bs ++((8,[44]) ::(gw b2 ++(cm (gs.map gw) ++((8,[62])::rest)))))):=by
   rw[List.map_cons,a3h]at h;simpa [gw]using h
  have hk:=h.le;simp only[SZ]at hz;have hl2:=R9 bs;have ls1:=fun{k:Nat} (h:At l k (bdw bs ++((8,[44]) ::(gw b2 ++(cm (gs.map gw) ++((8,[62])::rest))))))=>b5q (size:=size) (n:=n) hb (by omega) hn h ⟨rfl,rfl⟩;have ih:=gns_lp hn gs b2 (fun y hy=>hG y (by simp only[List.mem_cons]at hy ⊢;exact .inr hy)) m (by simp only[List.length_cons]at hm;omega);rw[Y9.eq_2];exact rdk
theorem c0V {gs:List Nod}(hG:∀y∈gs,G V 8 y)(hz:szN gs<=13000)(hn:100000<=n)(h:At l k (gnw gs++rest))(hr:nx rest 8 [60]=false):S1 (RL_ mkR l gs rest) (T9 n l k size):=by
 unfold T9;have hk:=h.le;have hl2:=R9 gs;cases gs with
 | nil =>
  have h:At l k rest:=h;exact rdk
 | cons b bs =>
  have h:At l k ((8,[60]) ::(gw b ++(cm (bs.map gw) ++((8,[62])::rest)))):=by
   simpa [gnw,a7V]using h
  simp only[List.length_cons]at hl2;have ls1:=fun{k:Nat} (h:At l k (gw b ++(cm (bs.map gw) ++((8,[62])::rest))))=>gns_lp (size:=size) hn bs b (fun y hy=>⟨hG y hy,by have:=a1Q hy;omega⟩) n (by omega) k [] h (by simp only[List.length_nil];omega);exact rdk
theorem rqs_lp (hn:200000<=n)(hr:nx rest 8 [44]=false)(hr2:NT false rest):∀(rs:List Nod) (b:Nod),(∀y∈b::rs,G V 9 y/\y.sz<=13000) -> ∀(m:Nat),rs.length<m -> ∀(k:Nat) (acc:List Nod),At l k (rqw b ++(cm (rs.map rqw)++rest))->acc.length+rs.length<=9000->S1 (RL_ mkR l (acc++b::rs) rest) (a0N n size l m acc k)
 | [],b,hG,m,hm,k,acc,h,ha=>by
  obtain⟨m,rfl⟩:∃q,m=q+1:=⟨m-1,by omega⟩
  obtain⟨hb,hz⟩:=hG b (by simp);have hk:=h.le;rw[a0N.eq_2];cases hb with
  | @rq1 s t a ht hs =>
   simp only[SZ]at hz;have h:At l k (W t ++((8,[58]) ::(2,s)::rest)):=by simpa [rqw,eqB,cm]using h
   exact rdk
  | @rq2 t u a ht hu =>
   simp only[SZ]at hz;have h:At l k (W t ++((8,[61,61]) ::(W u++rest))):=by simpa [rqw,eqB,cm,WW,jo]using h
   exact rdk
 | b2::rs,b,hG,m,hm,k,acc,h,ha=>by
  obtain⟨m,rfl⟩:∃q,m=q+1:=⟨m-1,by omega⟩
  obtain⟨hb,hz⟩:=hG b (by simp);have hk:=h.le;rw[List.map_cons,a3h]at h;have ih:=rqs_lp hn hr hr2 rs b2 (fun y hy=>hG y (by simp only[List.mem_cons]at hy ⊢;exact .inr hy)) m (by simp only[List.length_cons]at hm;omega);rw[a0N.eq_2];cases hb with
  | @rq1 s t a ht hs =>
   simp only[SZ]at hz;have h:At l k (W t ++((8,[58]) ::(2,s) ::(8,[44]) ::(rqw b2 ++(cm (rs.map rqw)++rest)))):=by simpa [rqw,eqB]using h
   exact rdk
  | @rq2 t u a ht hu =>
   simp only[SZ]at hz;have h:At l k (W t ++((8,[61,61]) ::(W u ++((8,[44]) ::(rqw b2 ++(cm (rs.map rqw)++rest)))))):=by simpa [rqw,eqB,WW,jo]using h
   exact rdk
theorem c2Y {rs:List Nod}(hG:∀y∈rs,G V 9 y)(hz:szN rs<=13000)(hn:200000<=n)(h:At l k (whw rs++rest))(hr:nx rest 8 [44]=false/\NT false rest/\nx rest 9 [119,104,101,114,101]=false):S1 (RL_ mkR l rs rest) (a0T n l k size):=by
 unfold a0T;have hk:=h.le;have hl2:=R9 rs;obtain⟨hr1,hr2,hr3⟩:=hr;cases rs with
 | nil =>
  have h:At l k rest:=h;exact rdk
 | cons b bs =>
  have h:At l k ((9,[119,104,101,114,101]) ::(rqw b ++(cm (bs.map rqw)++rest))):=by
   simpa [whw,a7V]using h
  simp only[List.length_cons]at hl2;have ih:=fun k acc=>rqs_lp (l:=l) (size:=size) hn hr1 hr2 bs b (fun y hy=>⟨hG y hy,by have:=a1Q hy;omega⟩) n (by omega) k acc;exact rdk
end
variable {us vs:List (List WK)} {gs ps rs th:List Nod} {k:Nat} {s:Str} {t:Typ}
section
variable {V:Int->Str->Prop} {l:List Tok} {size:Int} {n:Nat} {rest:List WK}
theorem wh_nx (h:NT false rest/\nx rest 8 [45,62]=false):NT false (whw rs++rest)/\nx (whw rs++rest) 8 [45,62]=false:=by
 cases rs with
 | nil=>exact h
 | cons r rs=>exact⟨⟨rfl,.inl rfl⟩,rfl⟩
theorem rs_nx {w:List WK}(h:nx w 9 [116,104,114,111,119,115]=false):nx (rsw t++w) 9 [116,104,114,111,119,115]=false:=by
 unfold rsw;cases eqB t.kind 4
 ·rfl
 ·exact h
theorem wh_nt (h:nx rest 9 [116,104,114,111,119,115]=false):nx (whw rs++rest) 9 [116,104,114,111,119,115]=false:=by
 cases rs with
 | nil=>exact h
 | cons r rs=>rfl
theorem rd_sig (ht:t=uT∨GT V false t)(hg:∀y∈gs,G V 8 y)(hp:V3 (RM V) ps us)(hth:∀y∈th,G V 10 y)(hl1:th.length<=1)(hrs:∀y∈rs,G V 9 y)(hz:t.sz+szN (gs ++(ps ++(th++rs)))<=13000)(hn:400000<=n){c:UInt8}(hc:c=123∨c=59)(h:At l k (sgw s t gs us th rs ++((8,[c])::rest))):S1 (SG_ l s t (gs ++(ps ++(th++rs))) ((8,[c])::rest)) (U8 n l k size):=by
 simp only[SZ]at hz;have hk:=h.le;have e0:=R9 gs;have e1:=R9 ps;have e2:=R9 th;have e3:=R9 rs;have h:At l k ((9,[102,117,110,99]) ::(1,s) ::(gnw gs ++(cw us ++(thw th ++(rsw t ++(whw rs ++((8,[c])::rest))))))):=by simpa [sgw]using h
 have nr:nx ((8,[c])::rest) 8 [44]=false/\NT false ((8,[c])::rest)/\nx ((8,[c])::rest) 9 [119,104,101,114,101]=false:=by
  rcases hc with rfl|rfl<;>exact⟨rfl,⟨rfl,.inl rfl⟩,rfl⟩
 have nw:=wh_nx (rs:=rs) (rest:=(8,[c])::rest) ⟨nr.2.1,by rcases hc with rfl|rfl<;>rfl⟩;have nt:=rs_nx (t:=t) (wh_nt (rs:=rs) (rest:=(8,[c])::rest) (by rcases hc with rfl|rfl<;>rfl));have ls1:=fun{k:Nat} {r:List WK} (h:At l k (gnw gs ++(cw us++r)))=>c0V (size:=size) (n:=n) hg (by omega) (by omega) h rfl;have ls2:=fun{k:Nat} {r:List WK} (h:At l k (cw us++r))=>show S1 (RL_ mkR l ps r) (X7 n l k size)from by
  obtain⟨ys,e,he,_⟩:=b9D (size:=size) (n:=n) hp (by omega) h.hl h.hk h.K (by omega);exact⟨_,e,ys,_,rfl,he,h.ap⟩
 have ls3:=fun{k:Nat} (h:At l k (whw rs ++((8,[c])::rest)))=>c2Y (size:=size) (n:=n) hrs (by omega) (by omega) h nr;unfold U8;rcases th with _ |⟨x,_ |⟨y,th⟩⟩
 ·have h:At l k ((9,[102,117,110,99]) ::(1,s) ::(gnw gs ++(cw us ++(rsw t ++(whw rs ++((8,[c])::rest)))))):=h;exact rdk
 ·have hx:=hth x (by simp);cases hx with
  | @thr u a hu =>
   simp only[SZ]at hz;have h:At l k ((9,[102,117,110,99]) ::(1,s) ::(gnw gs ++(cw us ++((9,[116,104,114,111,119,115]) ::(8,[40]) ::(W u ++((8,[41]) ::(rsw t ++(whw rs ++((8,[c])::rest))))))))):=by simpa [thw]using h
   exact rdk
 ·simp only[List.length_cons]at hl1;omega
def RFn (x:Nod)(w:List WK):Prop:=(∃u,w =(9,[102,117,110,99])::u) /\ ∀ ⦃l:List Tok⦄ ⦃size:Int⦄ ⦃n k:Nat⦄ ⦃rest:List WK⦄,400000<=n->At l k (w++rest)->S1 (RN_ l x rest) (Z8 n l k size)
theorem rd_fn {b:Nod}{v:List WK}{a:Int}(ht:t=uT∨GT V false t)(hg:∀y∈gs,G V 8 y)(hp:V3 (RM V) ps us)(hth:∀y∈th,G V 10 y)(hl1:th.length<=1)(hrs:∀y∈rs,G V 9 y)(hz:t.sz+szN (gs ++(ps ++(th++rs)))<=13000)(hb:RBl b v):RFn ⟨7,s,1,t,[],gs ++(ps ++(th++rs))++[b],a⟩ (sgw s t gs us th rs++v):=by
 refine⟨⟨_,rfl⟩,fun l size n k rest hn h=>?_⟩;rw[List.append_assoc]at h;have hk:=h.le;have hz2:=hz;have e0:=R9 (gs ++(ps ++(th++rs)));have lg:=fun{k:Nat} (h:At l k (sgw s t gs us th rs ++(v++rest)))=>show S1 (SG_ l s t (gs ++(ps ++(th++rs))) (v++rest)) (U8 n l k size)from by
  obtain⟨r,rfl⟩:=hb.2;exact rd_sig ht hg hp hth hl1 hrs hz hn (rest:=r++rest) (.inl rfl) h
 unfold Z8;exact rdk
def SGR (V:Int->Str->Prop)(x:Nod)(w:List WK):Prop:=∃s t gs ps th rs us a,x =⟨7,s,0,t,[],gs ++(ps ++(th++rs)),a⟩/\w=sgw s t gs us th rs++[(8,[59])]/\(t=uT∨GT V false t)/\(∀y∈gs,G V 8 y)/\V3 (RM V) ps us/\(∀y∈th,G V 10 y)/\th.length<=1/\(∀y∈rs,G V 9 y)/\t.sz+szN (gs ++(ps ++(th++rs)))<=13000
theorem sgs_lp (hn:400000<=n)(hr:nx rest 9 [102,117,110,99]=false){xs:List Nod}(hA:V3 (SGR V) xs vs):∀(m:Nat),xs.length<m -> ∀(k:Nat) (acc:List Nod),At l k (vs.flatten++rest)->acc.length+xs.length<=9000->S1 (RL_ mkC l (acc++xs) rest) (Y0 n size l m k acc):=by
 induction hA with
 | nil =>
  intro m hm k acc h ha;obtain⟨m,rfl⟩:∃q,m=q+1:=⟨m-1,by omega⟩
  have h:At l k rest:=h;have hk:=h.le;rw[Y0.eq_2];exact rdk
 | @cons x w xs vs hx hv ih =>
  intro m hm k acc h ha;obtain⟨m,rfl⟩:∃q,m=q+1:=⟨m-1,by omega⟩
  obtain⟨s,t,gs,ps,th,rs,us,a,rfl,rfl,h1,h2,h3,h4,h5,h6,h7⟩:=hx;have e0:=R9 (gs ++(ps ++(th++rs)));have lg:=fun{k:Nat} (h:At l k ((9,[102,117,110,99]) ::((1,s) ::(gnw gs ++(cw us ++(thw th ++(rsw t++whw rs)))) ++((8,[59]) ::(vs.flatten++rest)))))=>rd_sig (size:=size) h1 h2 h3 h4 h5 h6 h7 hn (rest:=vs.flatten++rest) (.inr rfl) h;have h:At l k ((9,[102,117,110,99]) ::((1,s) ::(gnw gs ++(cw us ++(thw th ++(rsw t++whw rs)))) ++((8,[59]) ::(vs.flatten++rest)))):=by
   rw[List.flatten_cons]at h;simpa [sgw]using h
  have hk:=h.le;have ih:=ih m (by simp only[List.length_cons]at hm;omega);rw[Y0.eq_2];exact rdk
def a8K (x:Nod):List WK:=(9,cond (decide (x.n=1)) [118,97,114] [108,101,116]) ::(1,x.s) ::(8,[58]) ::(W x.t++[(8,[59])])
theorem c5F (hn:400000<=n)(hr:nx rest 9 [108,101,116]=false)(hr2:nx rest 9 [118,97,114]=false):∀(xs:List Nod),(∀y∈xs,G V 13 y/\y.sz<=13000) -> ∀(m:Nat),xs.length<m -> ∀(k:Nat) (acc:List Nod),At l k ((xs.map a8K).flatten++rest)->acc.length+xs.length<=9000->S1 (RL_ mkB l (acc++xs) rest) (a0v n size l m acc k)
 | [],hG,m,hm,k,acc,h,ha=>by
  obtain⟨m,rfl⟩:∃q,m=q+1:=⟨m-1,by omega⟩
  have h:At l k rest:=h;have hk:=h.le;rw[a0v.eq_2];exact rdk
 | x::xs,hG,m,hm,k,acc,h,ha=>by
  obtain⟨m,rfl⟩:∃q,m=q+1:=⟨m-1,by omega⟩
  obtain⟨hb,hz⟩:=hG x (by simp);have hk:=h.le;have ih:=c5F hn hr hr2 xs (fun y hy=>hG y (by simp[hy])) m (by simp only[List.length_cons]at hm;omega);rw[List.map_cons,List.flatten_cons]at h;rw[a0v.eq_2];cases hb with
  | @fld s o t a hs ho ht =>
   simp only[SZ]at hz;rcases ho with rfl|rfl
   ·have h:At l k ((9,[108,101,116]) ::(1,s) ::(8,[58]) ::(W t ++((8,[59]) ::((xs.map a8K).flatten++rest)))):=by simpa [a8K]using h
    have h1:=h.up;exact rdk
   ·have h:At l k ((9,[118,97,114]) ::(1,s) ::(8,[58]) ::(W t ++((8,[59]) ::((xs.map a8K).flatten++rest)))):=by simpa [a8K]using h
    exact rdk
theorem c7x {fs ds:List Nod}(hf:∀y∈fs,G V 13 y)(hd:V3 (fun d w=>∃b v a,d =⟨15,[],0,zT,[],[b],a⟩/\w =(9,[100,101,105,110,105,116])::v/\RBl b v) ds vs)(hl:ds.length<=1)(hz:szN fs<=13000)(hn:400000<=n)(h:At l k ((8,[123]) ::((fs.map a8K).flatten ++(vs.flatten ++((8,[125])::rest))))):S1 (RL_ mkR l (fs++ds) rest) (a0F n l k size):=by
 have hk:=h.le;have e0:=R9 fs;have nn:nx (vs.flatten ++((8,[125])::rest)) 9 [108,101,116]=false/\nx (vs.flatten ++((8,[125])::rest)) 9 [118,97,114]=false:=by
  cases hd with
  | nil=>exact⟨rfl,rfl⟩
  | cons hx _=>obtain⟨b,v,a,_,rfl,_⟩:=hx;exact⟨rfl,rfl⟩
 have ls1:=fun{k:Nat} (h:At l k ((fs.map a8K).flatten ++(vs.flatten ++((8,[125])::rest))))=>c5F (size:=size) hn nn.1 nn.2 fs (fun y hy=>⟨hf y hy,by have:=a1Q hy;omega⟩) n (by omega) k [] h (by simp only[List.length_nil];omega);unfold a0F;cases hd with
 | nil =>
  have ls1:=fun{k:Nat} (h:At l k ((fs.map a8K).flatten ++((8,[125])::rest)))=>show S1 (RL_ mkB l fs ((8,[125])::rest)) _ from ls1 h;have h:At l k ((8,[123]) ::((fs.map a8K).flatten ++((8,[125])::rest))):=h;exact rdk
 | @cons d w ds vs hx h2 =>
  cases h2 with
  | cons _ _=>simp only[List.length_cons]at hl;omega
  | nil =>
   obtain⟨b,v,a,rfl,rfl,hb⟩:=hx;have e:[(9,[100,101,105,110,105,116])::v].flatten ++((8,[125])::rest) =(9,[100,101,105,110,105,116]) ::(v ++((8,[125])::rest)):=by simp
   rw[e]at ls1 h;have ls1:=fun{k:Nat} (h:At l k ((fs.map a8K).flatten ++((9,[100,101,105,110,105,116]) ::(v ++((8,[125])::rest)))))=>show S1 (RL_ mkB l fs ((9,[100,101,105,110,105,116]) ::(v ++((8,[125])::rest)))) _ from ls1 h;exact rdk
end
variable {a:Int} {vs:List (List WK)} {us:List Nod} {s:Str}
section
variable {V:Int->Str->Prop} {l:List Tok} {size:Int} {n:Nat} {rest:List WK}
def a9f (x:Nod):List WK:=cond (decide (x.n=1)) [(9,[105,110,100,105,114,101,99,116])] [] ++((9,[99,97,115,101]) ::(1,x.s) ::(csw x.ts++[(8,[59])]))
theorem cty_lp {xs:List Nod}{c:Int}(hn:400000<=n):∀(ts:List Typ),(∀t∈ts,GT V false t/\t.sz<=13000) -> ∀(m:Nat),ts.length<m -> ∀(k:Nat) (acc:List Typ),At l k (cm (WW ts) ++((8,[41])::rest))->acc.length+ts.length<=20000->S1 (TY_ l xs c (acc++ts) ((8,[41])::rest)) (a0t n size l m xs k c acc)
 | [],hG,m,hm,k,acc,h,ha=>by
  obtain⟨m,rfl⟩:∃q,m=q+1:=⟨m-1,by omega⟩
  have h:At l k ((8,[41])::rest):=h;have hk:=h.le;rw[a0t.eq_2,List.append_nil];exact rdk
 | t::ts,hG,m,hm,k,acc,h,ha=>by
  obtain⟨m,rfl⟩:∃q,m=q+1:=⟨m-1,by omega⟩
  obtain⟨hb,hz⟩:=hG t (by simp);have h:At l k ((8,[44]) ::(W t ++(cm (WW ts) ++((8,[41])::rest)))):=by
   rw[WW,a3h]at h;simpa using h
  have hk:=h.le;have ih:=fun{k:Nat} (h:At l k (cm (WW ts) ++((8,[41])::rest)))=>cty_lp (xs:=xs) (c:=c) hn ts (fun y hy=>hG y (by simp[hy])) m (by simp only[List.length_cons]at hm;omega) k (acc++[t]) h (by exact lnn);rw[List.append_assoc]at ih;rw[a0t.eq_2];refine c47 h.hl h.hk (w_T h fun _ _=>?_);simp only[NF];refine r_typ (by assumption) hb (by omega) (by omega) ⟨a8O rfl rfl,.inl (a8O rfl rfl)⟩ fun _ _ _=>?_;refine t_app (by exact lnn) (by exact lnn) (by decide) ?_;exact ih (by assumption)
theorem c5v (hn:400000<=n):∀(xs:List Nod),(∀y∈xs,G V 15 y/\y.sz<=13000) -> ∀(m:Nat),xs.length<m -> ∀(k:Nat) (acc:List Nod),At l k ((xs.map a9f).flatten ++((8,[125])::rest))->acc.length+xs.length<=9000->S1 (RL_ mkB l (acc++xs) rest) (a0J n size l m acc k)
 | [],hG,m,hm,k,acc,h,ha=>by
  obtain⟨m,rfl⟩:∃q,m=q+1:=⟨m-1,by omega⟩
  have h:At l k ((8,[125])::rest):=h;have hk:=h.le;rw[a0J.eq_2];exact rdk
 | x::xs,hG,m,hm,k,acc,h,ha=>by
  obtain⟨m,rfl⟩:∃q,m=q+1:=⟨m-1,by omega⟩
  obtain⟨hb,hz⟩:=hG x (by simp);have hk:=h.le;have ih:=c5v hn xs (fun y hy=>hG y (by simp[hy])) m (by simp only[List.length_cons]at hm;omega);rw[List.map_cons,List.flatten_cons]at h;rw[a0J.eq_2];cases hb with
  | @case s o ts a hs ho ht =>
   simp only[SZ]at hz;cases ts with
   | nil =>
    rcases ho with rfl|rfl
    ·have h:At l k ((9,[99,97,115,101]) ::(1,s) ::(8,[59]) ::((xs.map a9f).flatten ++((8,[125])::rest))):=by simpa [a9f,csw]using h
     exact rdk
    ·have h:At l k ((9,[105,110,100,105,114,101,99,116]) ::(9,[99,97,115,101]) ::(1,s) ::(8,[59]) ::((xs.map a9f).flatten ++((8,[125])::rest))):=by simpa [a9f,csw]using h
     exact rdk
   | cons t ts =>
    have e1:=a5H ts;simp only[szT]at hz;have h1:GT V false t:=ht t (by simp);have nt:NT false (cm (WW ts) ++((8,[41]) ::(8,[59]) ::((xs.map a9f).flatten ++((8,[125])::rest)))):=⟨a8O rfl rfl,.inl (a8O rfl rfl)⟩
    have lq:=fun{k:Nat} {c:Int} (h:At l k (cm (WW ts) ++((8,[41]) ::(8,[59]) ::((xs.map a9f).flatten ++((8,[125])::rest)))))=>cty_lp (size:=size) (xs:=acc) (c:=c) hn ts (fun y hy=>⟨ht y (by simp[hy]),by have:=a3w hy;omega⟩) n (by omega) k [t] h (by exact lnn);rcases ho with rfl|rfl
    ·have h:At l k ((9,[99,97,115,101]) ::(1,s) ::(8,[40]) ::(W t ++(cm (WW ts) ++((8,[41]) ::(8,[59]) ::((xs.map a9f).flatten ++((8,[125])::rest)))))):=by simpa [a9f,csw,WW,a7V]using h
     exact rdk
    ·have h:At l k ((9,[105,110,100,105,114,101,99,116]) ::(9,[99,97,115,101]) ::(1,s) ::(8,[40]) ::(W t ++(cm (WW ts) ++((8,[41]) ::(8,[59]) ::((xs.map a9f).flatten ++((8,[125])::rest)))))):=by simpa [a9f,csw,WW,a7V]using h
     exact rdk
theorem rd_cases {cs:List Nod}(hc:∀y∈cs,G V 15 y)(hz:szN cs<=13000)(hn:400000<=n){k:Nat}(h:At l k ((8,[123]) ::((cs.map a9f).flatten ++((8,[125])::rest)))):S1 (RL_ mkR l cs rest) (a1s n l k size):=by
 have hk:=h.le;have e0:=R9 cs;have ls1:=fun{k:Nat} (h:At l k ((cs.map a9f).flatten ++((8,[125])::rest)))=>c5v (size:=size) hn cs (fun y hy=>⟨hc y hy,by have:=a1Q hy;omega⟩) n (by omega) k [] h (by simp only[List.length_nil];omega);unfold a1s;exact rdk
def b6J (x:Nod):List WK:=(9,[116,121,112,101]) ::(2,x.s) ::(bdw x.l++[(8,[59])])
theorem c5q (hn:400000<=n)(hr:nx rest 9 [116,121,112,101]=false):∀(xs:List Nod),(∀y∈xs,G V 16 y/\y.sz<=13000) -> ∀(m:Nat),xs.length<m -> ∀(k:Nat) (acc:List Nod),At l k ((xs.map b6J).flatten++rest)->acc.length+xs.length<=9000->S1 (RL_ mkC l (acc++xs) rest) (Z4 n size l m k acc)
 | [],hG,m,hm,k,acc,h,ha=>by
  obtain⟨m,rfl⟩:∃q,m=q+1:=⟨m-1,by omega⟩
  have h:At l k rest:=h;have hk:=h.le;rw[Z4.eq_2];exact rdk
 | x::xs,hG,m,hm,k,acc,h,ha=>by
  obtain⟨m,rfl⟩:∃q,m=q+1:=⟨m-1,by omega⟩
  obtain⟨hb,hz⟩:=hG x (by simp);have hk:=h.le;have ih:=c5q hn hr xs (fun y hy=>hG y (by simp[hy])) m (by simp only[List.length_cons]at hm;omega);rw[List.map_cons,List.flatten_cons]at h;rw[Z4.eq_2];cases hb with
  | @assoc s bs a hs hbs =>
   simp only[SZ]at hz;have hl2:=R9 bs;have ls1:=fun{k:Nat} (h:At l k (bdw bs ++((8,[59]) ::((xs.map b6J).flatten++rest))))=>b5q (size:=size) (n:=n) hbs (by omega) (by omega) h ⟨rfl,rfl⟩;have h:At l k ((9,[116,121,112,101]) ::(2,s) ::(bdw bs ++((8,[59]) ::((xs.map b6J).flatten++rest)))):=by simpa [b6J]using h
   have h1:=h.up;exact rdk
def alw (x:Nod):List WK:=(9,[116,121,112,101]) ::(2,x.s) ::(8,[61]) ::(W x.t++[(8,[59])])
theorem als_lp (hn:400000<=n)(hr:nx rest 9 [116,121,112,101]=false):∀(xs:List Nod),(∀y∈xs,G V 17 y/\y.sz<=13000) -> ∀(m:Nat),xs.length<m -> ∀(k:Nat) (acc:List Nod),At l k ((xs.map alw).flatten++rest)->acc.length+xs.length<=9000->S1 (RL_ mkC l (acc++xs) rest) (a0u n size l m k acc)
 | [],hG,m,hm,k,acc,h,ha=>by
  obtain⟨m,rfl⟩:∃q,m=q+1:=⟨m-1,by omega⟩
  have h:At l k rest:=h;have hk:=h.le;rw[a0u.eq_2];exact rdk
 | x::xs,hG,m,hm,k,acc,h,ha=>by
  obtain⟨m,rfl⟩:∃q,m=q+1:=⟨m-1,by omega⟩
  obtain⟨hb,hz⟩:=hG x (by simp);have hk:=h.le;have ih:=als_lp hn hr xs (fun y hy=>hG y (by simp[hy])) m (by simp only[List.length_cons]at hm;omega);rw[List.map_cons,List.flatten_cons]at h;rw[a0u.eq_2];cases hb with
  | @alias s t a hs ht =>
   simp only[SZ]at hz;have h:At l k ((9,[116,121,112,101]) ::(2,s) ::(8,[61]) ::(W t ++((8,[59]) ::((xs.map alw).flatten++rest)))):=by simpa [alw]using h
   have h1:=h.up;exact rdk
theorem fns_lp (hn:400000<=n)(hr:nx rest 9 [102,117,110,99]=false){xs:List Nod}(hA:V3 RFn xs vs):∀(m:Nat),xs.length<m -> ∀(k:Nat) (acc:List Nod),At l k (vs.flatten++rest)->acc.length+xs.length<=9000->S1 (RL_ mkC l (acc++xs) rest) (a0f n size l m k acc):=by
 induction hA with
 | nil =>
  intro m hm k acc h ha;obtain⟨m,rfl⟩:∃q,m=q+1:=⟨m-1,by omega⟩
  have h:At l k rest:=h;have hk:=h.le;rw[a0f.eq_2];exact rdk
 | @cons x w xs vs hx hv ih =>
  intro m hm k acc h ha;obtain⟨m,rfl⟩:∃q,m=q+1:=⟨m-1,by omega⟩
  obtain⟨⟨u,rfl⟩,hx⟩:=hx;rw[List.flatten_cons,List.append_assoc]at h;have lt1:=fun{k:Nat} (h:At l k ((9,[102,117,110,99]) ::(u ++(vs.flatten++rest))))=>hx (size:=size) hn (rest:=vs.flatten++rest) h;have h:At l k ((9,[102,117,110,99]) ::(u ++(vs.flatten++rest))):=h;have hk:=h.le;have ih:=ih m (by simp only[List.length_cons]at hm;omega);rw[a0f.eq_2];exact rdk
def RD (x:Nod)(w:List WK):Prop:=∀ ⦃l:List Tok⦄ ⦃size:Int⦄ ⦃n k:Nat⦄ ⦃rest:List WK⦄,400000<=n->At l k (w++rest)->S1 (RN_ l x rest) (M8 n l k size)
theorem rd_dfn {x:Nod}{w:List WK}(h:RFn x w):RD x w:=by
 intro l size n k rest hn h1;obtain⟨⟨u,rfl⟩,hx⟩:=h;have h:At l k ((9,[102,117,110,99]) ::(u++rest)):=h1;have lt1:=fun{k:Nat} (h:At l k ((9,[102,117,110,99]) ::(u++rest)))=>hx (size:=size) hn (rest:=rest) h;have hk:=h.le;unfold M8;exact rdk
theorem rd_prot {ss:List Nod}(hu:∀y∈us,G V 16 y)(hs:V3 (SGR V) ss vs)(hz:szN (us++ss)<=13000):RD ⟨5,s,0,zT,[],us++ss,a⟩ ((9,[112,114,111,116,111,99,111,108]) ::(2,s) ::(8,[123]) ::((us.map b6J).flatten ++(vs.flatten++[(8,[125])]))):=by
 intro l size n k rest hn h;simp only[SZ]at hz;have e0:=R9 us;have e1:=R9 ss;have h:At l k ((9,[112,114,111,116,111,99,111,108]) ::(2,s) ::(8,[123]) ::((us.map b6J).flatten ++(vs.flatten ++((8,[125])::rest)))):=by simpa using h
 have hk:=h.le;have nn:nx (vs.flatten ++((8,[125])::rest)) 9 [116,121,112,101]=false:=by
  cases hs with
  | nil=>rfl
  | cons hx _=>obtain⟨s,t,gs,ps,th,rs,us,a,_,rfl,_⟩:=hx;rfl
 have ls1:=fun{k:Nat} (h:At l k ((us.map b6J).flatten ++(vs.flatten ++((8,[125])::rest))))=>c5q (size:=size) hn nn us (fun y hy=>⟨hu y hy,by have:=a1Q hy;omega⟩) n (by omega) k [] h (by simp only[List.length_nil];omega);have ls2:=fun k acc h hm=>sgs_lp (l:=l) (size:=size) hn (rest:=(8,[125])::rest) rfl hs n (by omega) k acc h hm;have lt1:=fun{k:Nat} (h:At l k ((9,[112,114,111,116,111,99,111,108]) ::(2,s) ::(8,[123]) ::((us.map b6J).flatten ++(vs.flatten ++((8,[125])::rest)))))=>show S1 (RN_ l ⟨5,s,0,zT,[],us++ss,a⟩ rest) (a0M n l k size)from by
  have hk:=h.le;unfold a0M;exact rdk
 unfold M8;exact rdk
theorem rd_ext {t:Typ}{rs fs:List Nod}(ht:GT V false t)(hr:∀y∈rs,G V 9 y)(hu:∀y∈us,G V 17 y)(hf:V3 RFn fs vs)(hz:t.sz+szN (rs ++(us++fs))<=13000):RD ⟨6,s,0,t,[],rs ++(us++fs),a⟩ ((9,[101,120,116,101,110,100]) ::(W t ++((8,[58]) ::(2,s) ::(whw rs ++((8,[123]) ::((us.map alw).flatten ++(vs.flatten++[(8,[125])]))))))):=by
 intro l size n k rest hn h;simp only[SZ]at hz;have e0:=R9 us;have e1:=R9 fs;have e2:=R9 rs;have h:At l k ((9,[101,120,116,101,110,100]) ::(W t ++((8,[58]) ::(2,s) ::(whw rs ++((8,[123]) ::((us.map alw).flatten ++(vs.flatten ++((8,[125])::rest)))))))):=by simpa using h
 have hk:=h.le;have nn:nx (vs.flatten ++((8,[125])::rest)) 9 [116,121,112,101]=false:=by
  cases hf with
  | nil=>rfl
  | cons hx _=>obtain⟨⟨u,rfl⟩,_⟩:=hx;rfl
 have lt1:=fun{k:Nat} (h:At l k ((9,[101,120,116,101,110,100]) ::(W t ++((8,[58]) ::(2,s) ::(whw rs ++((8,[123]) ::((us.map alw).flatten ++(vs.flatten ++((8,[125])::rest)))))))))=>show S1 (RN_ l ⟨6,s,0,t,[],rs ++(us++fs),a⟩ rest) (a08 n l k size)from by
  have hk:=h.le;have ls1:=fun{k:Nat} (h:At l k (whw rs ++((8,[123]) ::((us.map alw).flatten ++(vs.flatten ++((8,[125])::rest))))))=>c2Y (size:=size) (n:=n) hr (by omega) (by omega) h ⟨rfl,⟨rfl,.inl rfl⟩,rfl⟩;have ls2:=fun k acc h hm=>als_lp (l:=l) (size:=size) hn nn us (fun y hy=>⟨hu y hy,by have:=a1Q hy;omega⟩) n (by omega) k acc h hm;have ls3:=fun k acc h hm=>fns_lp (l:=l) (size:=size) hn (rest:=(8,[125])::rest) rfl hf n (by omega) k acc h hm;unfold a08;exact rdk
 unfold M8;exact rdk
end
variable {a o:Int} {gs:List Nod} {s:Str}
section
variable {V:Int->Str->Prop} {l:List Tok} {size:Int} {n:Nat} {rest:List WK}
def DeiW (d:Nod)(w:List WK):Prop:=∃b v a,d =⟨15,[],0,zT,[],[b],a⟩/\w =(9,[100,101,105,110,105,116])::v/\RBl b v
theorem c6p {u:Int}{fs ds:List Nod}{vs:List (List WK)}(hk:u=4/\o=0∨u=2/\(o=0∨o=1∨o=2∨o=3))(hg:∀y∈gs,G V 8 y)(hf:∀y∈fs,G V 13 y)(hd:V3 DeiW ds vs)(hl:ds.length<=1)(hz:szN (gs ++(fs++ds))<=13000):RD ⟨u,s,o,zT,[],gs ++(fs++ds),a⟩ (mdw o ++((9,tyw u) ::(2,s) ::(gnw gs ++((8,[123]) ::((fs.map a8K).flatten ++(vs.flatten++[(8,[125])])))))):=by
 intro l size n k rest hn h;simp only[SZ]at hz;have e0:=R9 gs;have e1:=R9 fs;have ls1:=fun{k:Nat} (h:At l k (gnw gs ++((8,[123]) ::((fs.map a8K).flatten ++(vs.flatten ++((8,[125])::rest))))))=>c0V (size:=size) (n:=n) hg (by omega) (by omega) h rfl;have ls2:=fun{k:Nat} (h:At l k ((8,[123]) ::((fs.map a8K).flatten ++(vs.flatten ++((8,[125])::rest)))))=>c7x (size:=size) (n:=n) hf hd hl (by omega) hn h;have e:∀w:List WK,w ++((9,tyw u) ::(2,s) ::(gnw gs ++((8,[123]) ::((fs.map a8K).flatten ++(vs.flatten++[(8,[125])])))))++rest=w ++((9,tyw u) ::(2,s) ::(gnw gs ++((8,[123]) ::((fs.map a8K).flatten ++(vs.flatten ++((8,[125])::rest)))))):=fun w=>by simp
 rw[e]at h;have hk0:=h.le;unfold M8;rcases hk with⟨rfl,rfl⟩ |⟨rfl,rfl|rfl|rfl|rfl⟩
 ·have h:At l _ ((9,[99,108,97,115,115]) ::(2,s) ::(gnw gs ++((8,[123]) ::((fs.map a8K).flatten ++(vs.flatten ++((8,[125])::rest)))))):=h;exact rdk
 ·have h:At l _ ((9,[115,116,114,117,99,116]) ::(2,s) ::(gnw gs ++((8,[123]) ::((fs.map a8K).flatten ++(vs.flatten ++((8,[125])::rest)))))):=h;exact rdk
 ·have h:At l _ ((9,[109,111,118,101,111,110,108,121]) ::(9,[115,116,114,117,99,116]) ::(2,s) ::(gnw gs ++((8,[123]) ::((fs.map a8K).flatten ++(vs.flatten ++((8,[125])::rest)))))):=h;exact rdk
 ·have h:At l _ ((9,[102,114,111,122,101,110]) ::(9,[115,116,114,117,99,116]) ::(2,s) ::(gnw gs ++((8,[123]) ::((fs.map a8K).flatten ++(vs.flatten ++((8,[125])::rest)))))):=h;exact rdk
 ·have h:At l _ ((9,[109,111,118,101,111,110,108,121]) ::(9,[102,114,111,122,101,110]) ::(9,[115,116,114,117,99,116]) ::(2,s) ::(gnw gs ++((8,[123]) ::((fs.map a8K).flatten ++(vs.flatten ++((8,[125])::rest)))))):=h;exact rdk
theorem rd_enum {cs:List Nod}(ho:o=0∨o=2)(hg:∀y∈gs,G V 8 y)(hc:∀y∈cs,G V 15 y)(hz:szN (gs++cs)<=13000):RD ⟨3,s,o,zT,[],gs++cs,a⟩ (mdw o ++((9,tyw 3) ::(2,s) ::(gnw gs ++((8,[123]) ::((cs.map a9f).flatten++[(8,[125])]))))):=by
 intro l size n k rest hn h;simp only[SZ]at hz;have e0:=R9 gs;have e1:=R9 cs;have ls1:=fun{k:Nat} (h:At l k (gnw gs ++((8,[123]) ::((cs.map a9f).flatten ++((8,[125])::rest)))))=>c0V (size:=size) (n:=n) hg (by omega) (by omega) h rfl;have ls2:=fun{k:Nat} (h:At l k ((8,[123]) ::((cs.map a9f).flatten ++((8,[125])::rest))))=>rd_cases (size:=size) (n:=n) hc (by omega) hn h;have e:∀w:List WK,w ++((9,tyw 3) ::(2,s) ::(gnw gs ++((8,[123]) ::((cs.map a9f).flatten++[(8,[125])]))))++rest=w ++((9,tyw 3) ::(2,s) ::(gnw gs ++((8,[123]) ::((cs.map a9f).flatten ++((8,[125])::rest))))):=fun w=>by simp
 rw[e]at h;have hk0:=h.le;unfold M8;rcases ho with rfl|rfl
 ·have h:At l _ ((9,[101,110,117,109]) ::(2,s) ::(gnw gs ++((8,[123]) ::((cs.map a9f).flatten ++((8,[125])::rest))))):=h;exact rdk
 ·have h:At l _ ((9,[102,114,111,122,101,110]) ::(9,[101,110,117,109]) ::(2,s) ::(gnw gs ++((8,[123]) ::((cs.map a9f).flatten ++((8,[125])::rest))))):=h;exact rdk
end
variable {l l':List Nod} {c:Nat} {x y:Nod}
theorem c0B {f:Nod->List WK}(hf:∀{x y:Nod},y.er=x.er->f y=f x):∀{l l':List Nod},ers l'=ers l->l'.map f=l.map f
 | [],l',h=>by cases a2f h;rfl
 | x::r,l',h=>by
  obtain⟨x',r',rfl,h1,h2⟩:=a6r h;rw[List.map_cons,List.map_cons,hf h1,c0B hf h2]
theorem a9B (h:ers l'=ers l):szN l'=szN l:=by rw[<-c05 l',h,c05]
theorem bdw_er (h:ers l'=ers l):bdw l'=bdw l:=by
 cases l with
 | nil=>cases a2f h;rfl
 | cons x r =>
  obtain⟨x',r',rfl,h1,h2⟩:=a6r h;have:=c0B (f:=fun b=>[(8,[38]),(2,b.s)]) (fun{x y} h=>by rw[er_s h]) h2;simp only[bdw,List.flatMap_def,er_s h1];rw[this]
theorem gw_er (h:y.er=x.er):gw y=gw x:=by unfold gw;rw[er_s h,bdw_er (a4D h).2.2.2.2.2]
theorem c4c (h:ers l'=ers l):gnw l'=gnw l:=by
 have hm:=c0B gw_er h;cases l with
 | nil=>cases a2f h;rfl
 | cons x r =>
  obtain⟨x',r',rfl,h1,h2⟩:=a6r h;simp only[gnw,hm]
theorem rqw_er (h:y.er=x.er):rqw y=rqw x:=by
 obtain⟨h1,h2,h3,h4,h5,h6⟩:=a4D h;unfold rqw;rw[h2,h3,h4,h5]
theorem c5g (h:ers l'=ers l):whw l'=whw l:=by
 have hm:=c0B rqw_er h;cases l with
 | nil=>cases a2f h;rfl
 | cons x r =>
  obtain⟨x',r',rfl,h1,h2⟩:=a6r h;simp only[whw,hm]
theorem thw_er (h:ers l'=ers l):thw l'=thw l:=by
 cases l with
 | nil=>cases a2f h;rfl
 | cons x r =>
  obtain⟨x',r',rfl,h1,h2⟩:=a6r h;simp only[thw,(a4D h1).2.2.2.1]
section
variable {V:Int->Str->Prop}
theorem bal_bd (h:∀y∈l,G V 7 y):Bal V (bdw l):=by
 have hv:∀y∈l,V 2 y.s:=fun y hy=>by
  cases h y hy with
  | bound hs=>exact hs
 have key:∀r:List Nod,(∀y∈r,V 2 y.s)->Bal V (r.flatMap fun b=>[((8:Int),([38]:Str)),(2,b.s)]):=fun r=>by
  induction r with
  | nil=>exact fun _=>.nil
  | cons y r ih=>exact fun hv=>.s (by decide) (.v (.inr (.inl rfl)) (hv y (by simp)) (ih fun z hz=>hv z (by simp[hz])))
 cases l with
 | nil=>exact .nil
 | cons x r=>exact .s (by decide) (.v (.inr (.inl rfl)) (hv x (by simp)) (key r fun y hy=>hv y (by simp[hy])))
theorem bal_mp {f:Nod->List WK}(h:∀y∈l,Bal V (f y)):∀w∈l.map f,Bal V w:=fun w hw=>by
 obtain⟨x,hx,rfl⟩:=List.mem_map.1 hw;exact h x hx
theorem bal_gn (h:∀y∈l,G V 8 y):Bal V (gnw l):=by
 cases l with
 | nil=>exact .nil
 | cons x r =>
  refine .s (by decide) ((b3X (bal_mp fun y hy=>?_)).app (.s (by decide) .nil));cases h y hy with
  | gen hs hl=>exact .v (.inr (.inl rfl)) hs (bal_bd hl)
theorem bal_wh (h:∀y∈l,G V 9 y):Bal V (whw l):=by
 cases l with
 | nil=>exact .nil
 | cons x r =>
  refine .k (by decide) (b3X (bal_mp fun y hy=>?_));cases h y hy with
  | rq1 ht hs =>
   simp only[rqw,a9m,Int.reduceEq,decide_false,cond_false];exact(a7S ht).app (.s (by decide) (.v (.inr (.inl rfl)) hs .nil))
  | rq2 ht hu =>
   simp only[rqw,a9m,decide_true,cond_true];refine(a7S ht).app (.s (by decide) ?_);simp only[WW,jo];exact a7S hu
theorem bal_th (h:∀y∈l,G V 10 y):Bal V (thw l):=by
 cases l with
 | nil=>exact .nil
 | cons x r =>
  cases h x (by simp)with
  | thr ht=>exact .k (by decide) (.p1 (a7S ht))
theorem bal_sg {s:Str}{t:Typ}{gs th rs:List Nod}{us:List (List WK)}(hs:V 1 s)(ht:t=uT∨GT V false t)(hg:∀y∈gs,G V 8 y)(hu:∀w∈us,Bal V w)(hth:∀y∈th,G V 10 y)(hr:∀y∈rs,G V 9 y):Bal V (sgw s t gs us th rs) :=
 .k (by decide) (.v (.inl rfl) hs ((bal_gn hg).app ((b2g hu).app ((bal_th hth).app ((bal_rs ht).app (bal_wh hr))))))
structure FR (V:Int->Str->Prop)(x:Nod)(w:List WK):Prop where
 p:PE PFn x w
 r:RFn x w
 b:Bal V w
 o:x.op=7
 e:∃u,w=u++[(8,[125])]
structure HR (V:Int->Str->Prop)(x:Nod)(w:List WK):Prop where
 p:PE PFn x w
 r:SGR V x w
 b:Bal V w
 o:x.op=7
def opG (c:Nat):Int:=match c with
 | 4=>10
 | 8=>8
 | 9=>12
 | 10=>11
 | 11=>7
 | 12=>7
 | 13=>13
 | 14=>15
 | 15=>14
 | 16=>16
 | 17=>17
 | _=>0
theorem g_op (h:G V c x):opG c=0∨x.op=opG c:=by
 cases h<;>first|exact .inr rfl|exact .inl rfl
theorem a7w (hc:opG c≠0)(h:∀y∈l,G V c y):∀y∈l,y.op=opG c:=fun y hy=>(g_op (h y hy)).resolve_left hc
theorem fr_of (vo:VO V)(h:G V 11 x)(hz:x.sz<=12000):∃w,FR V x w:=by
 cases h with
 | @fn s t gs ps th rs xs b a hs ht hx hg hp hth hl hr hb =>
  subst hx;simp only[SZ]at hz;obtain⟨us,hps⟩:=a7C (R:=MR V) (l:=ps) (N:=12000) (fun y hy h=>gx_x vo (hp y hy) h) (by omega);obtain⟨v,hbr⟩:∃v,BR V b v:=gx_x vo hb (by omega);have hpo:=a7w (c:=4) (by decide) hp;refine⟨sgw s t gs us th rs++v,fun y hy=>?_,rd_fn ht hg (hps.imp fun _ _ _ h=>h.r) hth hl hr (by simp only[SZ];omega) hbr.r,(bal_sg hs ht hg (a5o hps fun _ _ h=>h.b) hth hr).app hbr.b,rfl,by obtain⟨u,e⟩:=hbr.e;exact⟨sgw s t gs us th rs++u,by rw[e,List.append_assoc]⟩⟩;obtain⟨l',a',rfl,e⟩:=a1u hy;obtain⟨xs',b',rfl,e1,e2⟩:=b2m e;obtain⟨b'',rfl,e3⟩:=a7U e2;obtain⟨gs',q,rfl,e4,e5⟩:=b2m e1;obtain⟨ps',q,rfl,e6,e7⟩:=b2m e5;obtain⟨th',rs',rfl,e8,e9⟩:=b2m e7;have h1:=px_fn (s:=s) (t:=t) (a:=a') (b1r e4 (a7w (c:=8) (by decide) hg)) (b1r e6 hpo) (b1r e8 (a7w (c:=10) (by decide) hth)) (by have:=a6s e8;omega) (b1r e9 (a7w (c:=9) (by decide) hr)) (bs:=[b'']) (fun y hy=>by rw[List.mem_singleton.1 hy,(a4D e3).1];exact hbr.o) (a3E (hps.imp fun _ _ _ h=>h.p) e6) (.cons (hbr.p _ e3) .nil) (.inl ⟨rfl,rfl⟩) (by
   simp only[SZ,a9B e4,a9B e6,a9B e8,a9B e9];have:b''.sz=b.sz:=by rw[<-b8f b'',e3,b8f]
   omega)
  have e10:sgw s t gs' us th' rs'=sgw s t gs us th rs:=by unfold sgw;rw[c4c e4,thw_er e8,c5g e9]
  rw[e10]at h1;simpa using h1
theorem hr_of (vo:VO V)(h:G V 12 x)(hz:x.sz<=12000):∃w,HR V x w:=by
 cases h with
 | @sg s t gs ps th rs xs a hs ht hx hg hp hth hl hr =>
  subst hx;simp only[SZ]at hz;obtain⟨us,hps⟩:=a7C (R:=MR V) (l:=ps) (N:=12000) (fun y hy h=>gx_x vo (hp y hy) h) (by omega);have hpo:=a7w (c:=4) (by decide) hp;refine⟨sgw s t gs us th rs++[(8,[59])],fun y hy=>?_,⟨s,t,gs,ps,th,rs,us,a,rfl,rfl,ht,hg,hps.imp fun _ _ _ h=>h.r,hth,hl,hr,by simp only[SZ];omega⟩,(bal_sg hs ht hg (a5o hps fun _ _ h=>h.b) hth hr).app (.s (by decide) .nil),rfl⟩;obtain⟨l',a',rfl,e⟩:=a1u hy;obtain⟨gs',q,rfl,e4,e5⟩:=b2m e;obtain⟨ps',q,rfl,e6,e7⟩:=b2m e5;obtain⟨th',rs',rfl,e8,e9⟩:=b2m e7;have h1:=px_fn (s:=s) (t:=t) (a:=a') (o:=0) (vs:=[]) (b1r e4 (a7w (c:=8) (by decide) hg)) (b1r e6 hpo) (b1r e8 (a7w (c:=10) (by decide) hth)) (by have:=a6s e8;omega) (b1r e9 (a7w (c:=9) (by decide) hr)) (bs:=[]) (fun y hy=>by cases hy) (a3E (hps.imp fun _ _ _ h=>h.p) e6) .nil (.inr ⟨rfl,rfl⟩) (by
   simp only[SZ,a9B e4,a9B e6,a9B e8,a9B e9];omega)
  have e10:sgw s t gs' us th' rs'=sgw s t gs us th rs:=by unfold sgw;rw[c4c e4,thw_er e8,c5g e9]
  rw[e10,List.append_nil]at h1;simpa using h1
end
variable {o:Int} {vs:List (List WK)} {l:List Nod} {F:Nat->Nod->List Str->Option (List Str)} {x:Nod}
section
variable {V:Int->Str->Prop}
structure IR (F:Nat->Nod->List Str->Option (List Str))(V:Int->Str->Prop)(x:Nod)(w:List WK):Prop where
 p:PE (PZ F) x w
 b:Bal V w
theorem V3.app {α β:Type}{R:α->β->Prop}{a:List α}{b:List β}{c:List α}{d:List β}(h:V3 R a b)(g:V3 R c d):V3 R (a++c) (b++d):=by
 induction h with
 | nil=>exact g
 | cons h1 _ ih=>exact .cons h1 ih
theorem i_fld (h:G V 13 x):IR J9 V x (a8K x):=by
 cases h with
 | @fld s o t a hs ho ht =>
  refine⟨fun y hy=>?_,?_⟩
  ·obtain⟨l',b,rfl,hl⟩:=a1u hy;cases a2f hl;exact pm_fld ho
  ·have h1:Bal V ((1,s) ::(8,[58]) ::(W t++[(8,[59])])):=.v (.inl rfl) hs (.s (by decide) ((a7S ht).app (.s (by decide) .nil)));rcases ho with rfl|rfl
   ·exact Bal.k (s:=[108,101,116]) (by decide) h1
   ·exact Bal.k (s:=[118,97,114]) (by decide) h1
theorem bal_cs {ts:List Typ}(h:∀t∈ts,GT V false t):Bal V (csw ts):=by
 cases ts with
 | nil=>exact .nil
 | cons t r =>
  refine .p1 (b3X fun w hw=>?_);rw[a5n]at hw;obtain⟨x,hx,rfl⟩:=List.mem_map.1 hw;exact a7S (h x hx)
theorem i_case (h:G V 15 x):IR J9 V x (a9f x):=by
 cases h with
 | @case s o ts a hs ho ht =>
  refine⟨fun y hy=>?_,?_⟩
  ·obtain⟨l',b,rfl,hl⟩:=a1u hy;cases a2f hl;exact pm_case ho
  ·have h1:Bal V ((9,[99,97,115,101]) ::(1,s) ::(csw ts++[(8,[59])])):=.k (by decide) (.v (.inl rfl) hs ((bal_cs ht).app (.s (by decide) .nil)));rcases ho with rfl|rfl
   ·exact h1
   ·exact .k (by decide) h1
theorem i_ass (h:G V 16 x):IR itP V x (b6J x):=by
 cases h with
 | @assoc s l a hs hl =>
  refine⟨fun y hy=>?_,.k (by decide) (.v (.inr (.inl rfl)) hs ((bal_bd hl).app (.s (by decide) .nil)))⟩;obtain⟨l',b,rfl,hl⟩:=a1u hy;have:=pi_assoc (s:=s) (l:=l') (a:=b);rw[bdw_er hl]at this;exact this
theorem i_al (h:G V 17 x):IR itE V x (alw x):=by
 cases h with
 | @alias s t a hs ht =>
  refine⟨fun y hy=>?_,.k (by decide) (.v (.inr (.inl rfl)) hs (.s (by decide) ((a7S ht).app (.s (by decide) .nil))))⟩;obtain⟨l',b,rfl,hl⟩:=a1u hy;cases a2f hl;exact pi_alias
theorem i_dei (vo:VO V)(h:G V 14 x)(hz:x.sz<=12000):∃w,IR J9 V x w/\DeiW x w:=by
 cases h with
 | @dei b a hb =>
  simp only[SZ]at hz;obtain⟨v,g⟩:∃v,BR V b v:=gx_x vo hb (by omega);refine⟨_,⟨fun y hy=>?_,.k (by decide) g.b⟩,b,v,a,rfl,rfl,g.r⟩;obtain⟨l',a',rfl,hl⟩:=a1u hy;obtain⟨x',rfl,e1⟩:=a7U hl;exact pm_dei (g.p _ e1)
theorem i_fn {w:List WK}(h:PE PFn x w)(ho:x.op=7)(hb:Bal V w):IR itP V x w/\IR itE V x w:=⟨⟨fun y hy=>(pi_fn (by rw[(a4D hy).1];exact ho) (h y hy)).1,hb⟩,⟨fun y hy=>(pi_fn (by rw[(a4D hy).1];exact ho) (h y hy)).2,hb⟩⟩
theorem b6E {f:Nod->List WK}{c:Nat}(hf:∀{x},G V c x->IR F V x (f x))(h:∀y∈l,G V c y):V3 (IR F V) l (l.map f):=b2e fun y hy=>hf (h y hy)
theorem c3E (h:V3 (IR F V) l vs):Bal V vs.flatten:=b6O (a5o h fun _ _ h=>h.b)
structure DR (V:Int->Str->Prop)(x:Nod)(w:List WK):Prop where
 p:PE (PZ I5) x w
 r:RD x w
 b:Bal V w
 h:∃s u,w =(9,s)::u/\s∈KYL
 e:∃u,w=u++[(8,[125])]
theorem bal_md (ho:o=0∨o=1∨o=2∨o=3):Bal V (mdw o):=by
 rcases ho with rfl|rfl|rfl|rfl
 ·exact .nil
 ·exact .k (by decide) .nil
 ·exact .k (by decide) .nil
 ·exact .k (by decide) (.k (by decide) .nil)
theorem op_mem {ops:List Int}{l':List Nod}(h:ers l'=ers l)(g:∀y∈l,y.op∈ops):∀y∈l',y.op∈ops:=by
 induction l generalizing l' with
 | nil=>cases a2f h;intro y hy;cases hy
 | cons x r ih =>
  obtain⟨x',r',rfl,h1,h2⟩:=a6r h;intro y hy;rcases List.mem_cons.1 hy with rfl|hy
  ·rw[(a4D h1).1];exact g x (by simp)
  ·exact ih h2 (fun z hz=>g z (by simp[hz])) y hy
theorem b97 {u:Int}{s:Str}{gs ms:List Nod}{a:Int}(hu:u=2∨u=3∨u=4)(ho:o=0∨o=1∨o=2∨o=3)(hs:V 2 s)(hg:∀y∈gs,G V 8 y)(hm:∀y∈ms,y.op∈([13,14,15]:List Int))(h:V3 (IR J9 V) ms vs)(hz:szN (gs++ms)<=13000)(hr:RD ⟨u,s,o,zT,[],gs++ms,a⟩ (mdw o ++((9,tyw u) ::(2,s) ::(gnw gs ++((8,[123]) ::(vs.flatten++[(8,[125])])))))):∃w,DR V ⟨u,s,o,zT,[],gs++ms,a⟩ w:=by
 refine⟨_,fun y hy=>?_,hr,(bal_md ho).app ?_,?_,⟨mdw o ++((9,tyw u) ::(2,s) ::(gnw gs ++((8,[123])::vs.flatten))),by simp⟩⟩
 ·obtain⟨l',a',rfl,e⟩:=a1u hy;obtain⟨gs',ms',rfl,e1,e2⟩:=b2m e;have h1:=pd_type (s:=s) (a:=a') hu ho (b1r e1 (a7w (c:=8) (by decide) hg)) (op_mem e2 hm) (a3E (h.imp fun _ _ _ h=>h.p) e2) (by simp only[SZ,a9B e1,a9B e2]at hz ⊢;exact hz);rw[c4c e1]at h1;exact h1
 ·have h1:Bal V ((2,s) ::(gnw gs ++((8,[123]) ::(vs.flatten++[(8,[125])])))):=.v (.inr (.inl rfl)) hs ((bal_gn hg).app (.s (by decide) ((c3E h).app (.s (by decide) .nil))));rcases hu with rfl|rfl|rfl<;>exact .k (by decide) h1
 ·rcases ho with rfl|rfl|rfl|rfl
  ·rcases hu with rfl|rfl|rfl<;>exact⟨_,_,rfl,by decide⟩
  ·exact⟨_,_,rfl,by decide⟩
  ·exact⟨_,_,rfl,by decide⟩
  ·exact⟨_,_,rfl,by decide⟩
theorem dr_of (vo:VO V)(h:G V 18 x)(hz:x.sz<=12000):∃w,DR V x w:=by
 cases h with
 | @strc s o gs fs ds xs a hs ho hx hg hf hd hl =>
  subst hx;simp only[SZ]at hz;obtain⟨vs,h2⟩:=a7C (R:=fun x w=>IR J9 V x w/\DeiW x w) (l:=ds) (N:=12000) (fun y hy h=>i_dei vo (hd y hy) h) (by omega);refine b97 (vs:=fs.map a8K++vs) (.inl rfl) ho hs hg (fun y hy=>?_) ((b6E i_fld hf).app (h2.imp fun _ _ _ h=>h.1)) (by simp only[SZ];omega) ?_
  ·rcases List.mem_append.1 hy with hy|hy
   ·rw[a7w (c:=13) (by decide) hf y hy];decide
   ·rw[a7w (c:=14) (by decide) hd y hy];decide
  ·have:=c6p (s:=s) (a:=a) (.inr ⟨rfl,ho⟩) hg hf (h2.imp fun _ _ _ h=>h.2) hl (by simp only[SZ];omega);simpa using this
 | @clss s gs fs ds xs a hs hx hg hf hd hl =>
  subst hx;simp only[SZ]at hz;obtain⟨vs,h2⟩:=a7C (R:=fun x w=>IR J9 V x w/\DeiW x w) (l:=ds) (N:=12000) (fun y hy h=>i_dei vo (hd y hy) h) (by omega);refine b97 (vs:=fs.map a8K++vs) (.inr (.inr rfl)) (.inl rfl) hs hg (fun y hy=>?_) ((b6E i_fld hf).app (h2.imp fun _ _ _ h=>h.1)) (by simp only[SZ];omega) ?_
  ·rcases List.mem_append.1 hy with hy|hy
   ·rw[a7w (c:=13) (by decide) hf y hy];decide
   ·rw[a7w (c:=14) (by decide) hd y hy];decide
  ·have:=c6p (s:=s) (a:=a) (.inl ⟨rfl,rfl⟩) hg hf (h2.imp fun _ _ _ h=>h.2) hl (by simp only[SZ];omega);simpa using this
 | @enum s o gs cs a hs ho hg hc =>
  simp only[SZ]at hz;refine b97 (vs:=cs.map a9f) (.inr (.inl rfl)) (ho.elim .inl fun h=>.inr (.inr (.inl h))) hs hg (fun y hy=>?_) (b6E i_case hc) (by simp only[SZ];omega) (rd_enum ho hg hc (by simp only[SZ];omega));rw[a7w (c:=15) (by decide) hc y hy];decide
 | @prot s us ss a hs hu hf =>
  simp only[SZ]at hz;obtain⟨vs,h2⟩:=a7C (R:=HR V) (l:=ss) (N:=12000) (fun y hy h=>hr_of vo (hf y hy) h) (by omega);have hA:V3 (IR itP V) (us++ss) (us.map b6J++vs):=(b6E i_ass hu).app (h2.imp fun _ _ _ h=>(i_fn h.p h.o h.b).1);have hr:=rd_prot (s:=s) (a:=a) hu (h2.imp fun _ _ _ h=>h.r) (by simp only[SZ];omega);refine⟨(9,[112,114,111,116,111,99,111,108]) ::(2,s) ::(8,[123]) ::((us.map b6J++vs).flatten++[(8,[125])]),fun y hy=>?_,by simpa using hr,.k (by decide) (.v (.inr (.inl rfl)) hs (.s (by decide) ((c3E hA).app (.s (by decide) .nil)))),⟨_,_,rfl,by decide⟩,⟨_::_::_::_,rfl⟩⟩;obtain⟨l',a',rfl,e⟩:=a1u hy;exact pd_prot (a3E (hA.imp fun _ _ _ h=>h.p) e)
 | @ext s t rs us fs a hs ht hr hu hf =>
  simp only[SZ]at hz;obtain⟨vs,h2⟩:=a7C (R:=FR V) (l:=fs) (N:=12000) (fun y hy h=>fr_of vo (hf y hy) h) (by omega);have hA:V3 (IR itE V) (us++fs) (us.map alw++vs):=(b6E i_al hu).app (h2.imp fun _ _ _ h=>(i_fn h.p h.o h.b).2);have h3:=rd_ext (s:=s) (a:=a) ht hr hu (h2.imp fun _ _ _ h=>h.r) (by simp only[SZ];omega);refine⟨(9,[101,120,116,101,110,100]) ::(W t ++((8,[58]) ::(2,s) ::(whw rs ++((8,[123]) ::((us.map alw++vs).flatten++[(8,[125])]))))),fun y hy=>?_,by simpa using h3,.k (by decide) ((a7S ht).app (.s (by decide) (.v (.inr (.inl rfl)) hs ((bal_wh hr).app (.s (by decide) ((c3E hA).app (.s (by decide) .nil))))))),⟨_,_,rfl,by decide⟩,⟨(9,[101,120,116,101,110,100]) ::(W t ++((8,[58]) ::(2,s) ::(whw rs ++((8,[123]) ::(us.map alw++vs).flatten)))),by simp⟩⟩;obtain⟨l',a',rfl,e⟩:=a1u hy;obtain⟨rs',ms',rfl,e1,e2⟩:=b2m e;have h1:=pd_ext (s:=s) (t:=t) (a:=a') (b1r e1 (a7w (c:=9) (by decide) hr)) (op_mem e2 (fun y hy=>by
   rcases List.mem_append.1 hy with hy|hy
   ·rw[a7w (c:=17) (by decide) hu y hy];decide
   ·rw[a7w (c:=11) (by decide) hf y hy];decide)) (a3E (hA.imp fun _ _ _ h=>h.p) e2) (by simp only[SZ,a9B e1,a9B e2];omega)
  rw[c5g e1]at h1;exact h1
 | «fun» h =>
  obtain⟨w,g⟩:=fr_of vo h hz;refine⟨w,fun y hy=>pd_fn (by rw[(a4D hy).1];exact g.o) (g.p y hy),rd_dfn g.r,g.b,?_,g.e⟩;obtain⟨⟨u,rfl⟩,_⟩:=g.r;exact⟨_,_,rfl,by decide⟩
end
def srcA:Str:=[102,117,110,99,32,102,40,120,58,32,73,110,116,41,32,45,62,32,73,110,116,32,123,32,114,101,116,117,114,110,32,120,32,43,32,50,32,42,32,51,59,32,125]
def runM (u:Str):Nat->Sc.MS->Sc.MR
 | 0,x=>.go x
 | n+1,x=>match Sc.stepM u x with
  | .go y=>runM u n y
  | r=>r
theorem b3r {u:Str}:∀(n:Nat) (x:Sc.MS) (l:List Sc.Tok),runM u n x=.done l->Sc.Ends u x (.done l)
 | 0,x,l,h=>by cases h
 | n+1,x,l,h=>by
  unfold runM at h;cases hs:Sc.stepM u x with
  | go y =>
   rw[hs]at h;exact Sc.Ends.a03 u (.step _ _ _ hs (.refl _)) (b3r n y l h)
  | err c a=>rw[hs]at h;cases h
  | done m=>rw[hs]at h;cases h;exact⟨x,.refl _,hs,fun z h=>by cases h⟩
def tksA:List Sc.Tok:=match runM srcA 40 ⟨0,[],[]⟩with
 | .done l=>l
 | _=>[]
theorem tok_A:Sc.a2y srcA=.done tksA:=Sc.Ends.det _ ((Sc.a6L srcA).2.2 (by decide)) (b3r 40 _ _ (by kernel_rfl))
noncomputable def nodA:Nod:=match U1 1000000 srcA (tksA.map c1N) 1000000 1 [] [] 0 with
 | some (_,[x])=>x
 | _=>⟨0,[],0,⟨0,[],0,[]⟩,[],[],0⟩
theorem mod_A:U1 1000000 srcA (tksA.map c1N) 1000000 1 [] [] 0=some ([],[nodA]):=by kernel_rfl
noncomputable def wsA:List Str:=(I5 1000000 nodA []).getD []
theorem prt_A:I5 1000000 nodA []=some wsA:=by kernel_rfl
theorem txt_A:a3t wsA=some (Lib.join wsA [32]):=by kernel_rfl
theorem c3C:a4G 1000000=some true:=by
 have h1:a0r 1000000 srcA=some (⟨1,[],0,⟨0,[],0,[]⟩,[],[nodA],0⟩,[]):=by
  have c1:b3G (Sc.a2y srcA)=0:=by rw[tok_A];rfl
  have c2:tokA (Sc.a2y srcA)=0:=by rw[tok_A];rfl
  unfold a0r a5W a8n;simp only[NF,c1,c2,show eqB 0 0=true from a0z rfl,Bool.and_self];rw[tok_A,show a9b (.done tksA)=tksA.map c1N from rfl,mod_A];rfl
 have h2:a5O ⟨1,[],0,⟨0,[],0,[]⟩,[],[nodA],0⟩=some (Lw.printed [Lib.join wsA [32]]):=by
  have hl:Lw.Lines (Lw.b5T Pr.env) (D9 [nodA]) [Lib.join wsA [32]]:=by
   have e:D9 [nodA]=b8R nodA++[]:=b98.cons nodA [];rw[e];exact .cons _ _ _ _ rfl ⟨_,_,a4R.ok prt_A,a7Y.ok txt_A⟩ .nil
  unfold a5O;rw[a8a (h:=Pr.a8X) rfl (Lw.b9C Lw.b9e hl (show [Lib.join wsA [32]].length=[nodA].length from rfl) (by decide) (Nat.le_of_ble_eq_true (by kernel_rfl)))]
 have h3:eqS (Lw.printed [Lib.join wsA [32]]) [102,117,110,99,32,102,32,40,32,120,32,58,32,73,110,116,32,41,32,45,62,32,73,110,116,32,123,32,114,101,116,117,114,110,32,40,32,120,32,43,32,40,32,50,32,42,32,51,32,41,32,41,32,59,32,125,10]=true:=by kernel_rfl
 unfold a4G;show((a0r 1000000 srcA).bind _)=some true;rw[h1];simp only[NF,show eqB ((([]:List Flt).length:Nat):Int) 0=true from a0z rfl];rw[h2];simp only[NF,h3]
variable {vs:List (List WK)} {xs ys:List Nod} {l:List Sc.Tok} {w:List WK} {n:Nat} {s:Str}
theorem tokT_mem {l:List Tok}{k:Nat}(h:k<l.length):a3x l k∈l:=by
 unfold a3x;rw[List.getElem?_eq_getElem h];exact List.getElem_mem h
theorem c7T (s:Str):(eqB (b3G (Sc.a2y s)) 0=true/\eqB (tokA (Sc.a2y s)) 0=true)∨eqB (b3G (Sc.a2y s)) 0=false:=by
 rcases tok_code s with⟨h1,h2⟩ |⟨h1,_⟩
 ·exact .inl ⟨a0z h1,a0z h2⟩
 ·exact .inr (a1t h1)
theorem tok_v1:∀t∈a9b (Sc.a2y s),Sc.V1 t.kind t.text:=by
 intro t ht;cases h:Sc.a2y s with
 | done l =>
  rw[h]at ht;obtain⟨u,hu,rfl⟩:=List.mem_map.1 ht;exact Sc.tok_V1 h u hu
 | go x=>rw[h]at ht;cases ht
 | err c a=>rw[h]at ht;cases ht
theorem cx1 (s:Str):Cx Sc.V1 (a9b (Sc.a2y s)) where
 hl:=b8k s
 tk {k kd} h:=by
  have hk:(a3x (a9b (Sc.a2y s)) k).kind=kd:=by
   unfold isK at h;rw[Bool.and_eq_true,a9m]at h;exact of_decide_eq_true h.2
  rw[<-hk];exact tok_v1 _ (tokT_mem (b5i h))
 lit h:=by
  have hh:=h.elim (fun h=>h.2.2 (by omega)) fun h=>h.elim (fun h=>h.2.2 (by omega)) fun h=>h.2.2 (by omega);exact⟨fun h=>by omega,fun h=>by omega,fun _=>hh⟩
 int h:=Sc.b4E (h.2.1 rfl).1
theorem vo1:VO Sc.V1 where
 n3 h:=numw_of (h.2.1 rfl).1
 d3 h:=Sc.b4E (h.2.1 rfl).1
 t4 h:=by have:=(h.2.2 (by omega)).2;omega
theorem kt_tok (h:Sc.a2y s=.done l):kt (a9b (Sc.a2y s))=Sc.KT l:=by
 rw[h];simp only[kt,a9b,Sc.KT,List.map_map];rfl
def zN:Nod:=⟨0,[],0,zT,[],[],0⟩
theorem SG_len:SGL.all (fun s=>decide (s.length<=8000))=true:=by decide
theorem KY_len:KYL.all (fun s=>decide (s.length<=8000))=true:=by decide
theorem iw_mem {p:WK}:∀{vs:List (List WK×Str)},p∈iw vs ->(∃v∈vs,p∈v.1) ∨ ∃v∈vs,p.2=v.2
 | [v],h=>by
  rw[iw]at h;rcases List.mem_append.1 h with h|h
  ·exact .inl ⟨v,by simp,h⟩
  ·rcases List.mem_singleton.1 h with rfl;exact .inr ⟨v,by simp,rfl⟩
 | v::q::r,h=>by
  rw[iw]at h;rcases List.mem_append.1 h with h|h
  ·exact .inl ⟨v,by simp,h⟩
  ·rcases List.mem_cons.1 h with rfl|h
   ·exact .inr ⟨v,by simp,rfl⟩
   ·rcases iw_mem h with⟨u,h1,h2⟩ |⟨u,h1,h2⟩
    ·exact .inl ⟨u,by simp[List.mem_cons.1 h1],h2⟩
    ·exact .inr ⟨u,by simp[List.mem_cons.1 h1],h2⟩
theorem v1_len {k:Int}(hk:k=1∨k=2∨k=3∨k=4)(h:Sc.V1 k s):s.length<=8000:=by
 rcases Nat.lt_or_ge 8000 s.length with hl|hl
 ·exfalso;rcases hk with rfl|rfl|rfl|rfl
  ·have:=(h.1 (.inl rfl)).2.2.2.1;rw[X6 (by omega)]at this;cases this
  ·have:=(h.1 (.inr rfl)).2.2.2.1;rw[X6 (by omega)]at this;cases this
  ·have:=Sc.b4E (h.2.1 rfl).1;simp only[b4x,Bool.and_eq_true,Nat.ble_eq]at this;omega
  ·have:=(h.2.2 (by omega)).2;omega
 ·exact hl
theorem bal_wd (h:Bal Sc.V1 w):∀p∈w,p.2.length<=8000:=by
 induction h with
 | nil=>intro p hp;cases hp
 | @tok q r h1 _ ih =>
  intro p hp;rcases List.mem_cons.1 hp with rfl|hp
  ·rcases h1 with⟨hk,hv⟩ |⟨_,hs⟩ |⟨_,hs⟩|h
   ·exact v1_len hk hv
   ·exact of_decide_eq_true (List.all_eq_true.1 SG_len _ hs)
   ·exact of_decide_eq_true (List.all_eq_true.1 KY_len _ hs)
   ·rw[h];simp
  ·exact ih p hp
 | par _ _ ih1 ih2 =>
  intro p hp;rcases List.mem_cons.1 hp with rfl|hp
  ·simp
  ·rcases List.mem_append.1 hp with hp|hp
   ·exact ih1 p hp
   ·rcases List.mem_cons.1 hp with rfl|hp
    ·simp
    ·exact ih2 p hp
 | int h1 _ _ h4 _ ih3 ih5 =>
  intro p hp;rcases List.mem_cons.1 hp with rfl|hp
  ·exact(h1.2.2 (by omega)).2
  ·rcases List.mem_append.1 hp with hp|hp
   ·rcases iw_mem hp with⟨v,g1,g2⟩ |⟨v,g1,g2⟩
    ·exact ih3 v g1 p g2
    ·rw[g2];exact((h4 v g1).2.2 (by omega)).2
   ·exact ih5 p hp
theorem spK_len (k:Int)(x:Str):(Sc.spK k x).length<=2*x.length+3:=by
 have hl:=Rp.b2n x;unfold Sc.spK;repeat' split
 all_goals first|omega |(simp only[List.length_cons,List.length_append,List.length_nil];omega)
theorem c6u:∀(w:List WK),(∀p∈w,p.2.length<=8000) ->(Sc.spW w).length<=w.length*16010
 | [],_=>by simp[Sc.spW,List.intercalate]
 | p::r,h=>by
  have h1:=spK_len p.1 p.2;have h2:=h p (by simp);have ih:=c6u r fun q hq=>h q (by simp[hq]);rw[Sc.b0C];cases r with
  | nil=>simp only[List.length_append,List.length_nil,List.length_cons];omega
  | cons q r=>simp only[List.length_append,List.length_cons]at ih ⊢;omega
theorem join_sp (w:List WK):Lib.join (sp w) [32]=Sc.spW w:=by
 unfold sp Sc.spW Lib.join;rfl
def txt (vs:List (List WK)):Str:=Lw.printed (vs.map Sc.spW)
theorem b21 (w:List WK)(r:List (List WK)):txt (w::r)=Sc.spW w ++(10::txt r):=by simp[txt,Lw.printed]
theorem line_ok {d:Nod}(h:DR Sc.V1 d w)(hz:d.sz<=12000){y:Nod}(hy:y.er=d.er):Lw.b5T Pr.env (b8R y) (Sc.spW w)/\(Sc.spW w).length<=2000000000:=by
 have hz2:y.sz=d.sz:=by rw[<-b8f,hy,b8f]
 obtain⟨h1,h2⟩:=h.p y hy;have h3:=c6u w (bal_wd h.b);have hl:(Sc.spW w).length<=2000000000:=by omega
 have e:I5 400000 y []=some (sp w):=h2 400000 [] (by omega) (by simp only[List.length_nil];omega);have e2:a3t (sp w)=some (Sc.spW w):=by
  unfold a3t c2e leN;rw[join_sp,decide_eq_true (by simp only[WL];omega),decide_eq_true (by omega)];rfl
 exact⟨⟨_,_,a4R.ok e,a7Y.ok e2⟩,hl⟩
theorem lines_v (h:V3 (DR Sc.V1) xs vs):∀{ys:List Nod},(∀x∈xs,x.sz<=12000)->ers ys=ers xs->Lw.Lines (Lw.b5T Pr.env) (D9 ys) (vs.map Sc.spW)/\(txt vs).length<=vs.length*2000000001:=by
 induction h with
 | nil=>intro ys _ he;cases a2f he;exact⟨.nil,by simp[txt,Lw.printed]⟩
 | @cons x w xs vs h1 h2 ih =>
  intro ys hz he;obtain⟨y,r,rfl,g1,g2⟩:=a6r he;obtain⟨k1,k2⟩:=line_ok h1 (hz x (by simp)) g1;obtain⟨k3,k4⟩:=ih (fun z hz'=>hz z (by simp[hz'])) g2;have e:D9 (y::r)=b8R y++D9 r:=b98.cons y r;refine⟨by rw[e];exact .cons _ _ _ _ rfl k1 k3,?_⟩;rw[b21];simp only[List.length_append,List.length_cons];omega
theorem b6u {o n:Int}{t:Typ}{ts:List Typ}{a:Int}(h:V3 (DR Sc.V1) xs vs)(hz:szN xs<=12000)(he:ers ys=ers xs):a5O ⟨o,s,n,t,ts,ys,a⟩=some (txt vs):=by
 have hl:=a00 xs;have hv:=h.len;have hy:=a6s he;obtain⟨g1,g2⟩:=lines_v h (fun x hx=>by have:=a1Q hx;omega) he;have hm:(vs.map Sc.spW).length=ys.length:=by rw[List.length_map];omega
 have hm2:(vs.map Sc.spW).length<=140737488355328:=by rw[List.length_map];omega
 unfold a5O;rw[a8a (h:=Pr.a8X) rfl (Lw.b9C Lw.b9e g1 hm hm2 (show(txt vs).length<=140737488355328 by omega))];rfl
theorem KY_hd:KYL.all (fun s=>!s.isEmpty&&(Nat.ble (s.headD 0).toNat 127 && !Lib.isSp (s.headD 0)))=true:=by decide
theorem c6v (p:WK):∀u:List WK,∃q,Sc.spW (u++[p])=q++Sc.spK p.1 p.2
 | []=>⟨[],by rw[List.nil_append,Sc.b0C];simp⟩
 | x::u=>by
  obtain⟨q,e⟩:=c6v p u;rw[List.cons_append,Sc.b0C];cases hu:u++[p]with
  | nil=>simp at hu
  | cons y r=>rw[hu]at e;exact⟨Sc.spK x.1 x.2 ++(32::q),by simp[e]⟩
theorem txt_end (h:V3 (DR Sc.V1) xs vs)(hne:vs ≠ []):∃q,txt vs=q++[125,10]:=by
 induction h with
 | nil=>exact absurd rfl hne
 | @cons x w xs vs h1 h2 ih =>
  rw[b21];cases h2 with
  | nil =>
   obtain⟨u,e⟩:=h1.e;obtain⟨q,e2⟩:=c6v (8,[125]) u;rw[e,e2];exact⟨q,by simp[txt,Lw.printed,Sc.spK]⟩
  | cons _ _ =>
   obtain⟨q,e⟩:=ih (by simp);exact⟨_ ++(10::q),by rw[e,List.append_assoc];rfl⟩
theorem trim_v (h:V3 (DR Sc.V1) xs vs)(hne:vs ≠ [])(hl:(txt vs).length<=8000):∃r,b9Q (txt vs)=some r/\eqS r []=false:=by
 obtain⟨q,e⟩:=txt_end h hne;have e1:Tr.rtr (txt vs)=some (q++[125]):=by
  rw[e];unfold Tr.rtr;have e2:(q++[125,10]:Str).reverse=10::125::q.reverse:=by simp
  rw[e2,List.dropWhile_cons,if_pos (by decide),List.dropWhile_cons,if_neg (by decide)];simp
 refine⟨q++[125],?_,by cases q<;>simp[eqS]⟩;cases h with
 | nil=>exact absurd rfl hne
 | @cons x w xs vs h1 h2 =>
  obtain⟨s,u,rfl,hs⟩:=h1.h;have hk:=List.all_eq_true.1 KY_hd s hs;obtain⟨z,et⟩:∃z,txt (((9,s)::u)::vs)=s++z:=⟨_,by rw[b21,Sc.b0C,List.append_assoc];rfl⟩
  cases s with
  | nil=>simp at hk
  | cons b s =>
   simp only[List.isEmpty_cons,Bool.not_false,List.headD_cons,Bool.true_and]at hk;show Tr.b9P _=_;unfold Tr.b9P;split
   ·rename_i h0;rw[et]at h0;simp at h0
   ·rename_i x t h0;have hx:x=b:=by
     have:=congrArg (·.headD 0) h0;rw[et]at this;simpa using this.symm
    have hb:leN (txt (((9,b::s)::u)::vs)).length 1000000=true:=b2u (by omega);rw[hb,hx];simp only[Bool.true_and];rw[hk];exact e1
theorem ly_txt:∀(vs:List (List WK)),(∀w∈vs,w ≠ [])->vs ≠ [] -> ∀pre:Str,(pre=[]∨pre=[32]∨pre=[10])->Sc.Ly vs.flatten (pre++txt vs)
 | [],_,h,_,_=>absurd rfl h
 | [w],hw,_,pre,hp=>by
  have:=Sc.ly_sp (b:=[]) (t:=[10]) .nl (.inr ⟨10,[],rfl,.inr (.inr (.inr rfl))⟩) w pre hp (hw w (by simp));rw[b21];simpa [txt,Lw.printed]using this
 | w::v::r,hw,_,pre,hp=>by
  have ih:=ly_txt (v::r) (fun z hz=>hw z (List.mem_cons_of_mem _ hz)) (by simp) [10] (.inr (.inr rfl));have:=Sc.ly_sp ih (.inr ⟨10,_,rfl,.inr (.inr (.inr rfl))⟩) w pre hp (hw w (by simp));rw[b21,List.flatten_cons];exact this
theorem ch_all (h:∀w∈vs,Bal Sc.V1 w):Sc.Ch [] vs.flatten []:=Sc.bal_ch (b6O h) [] (.inl rfl)
theorem c6E (h:V3 (DR Sc.V1) xs vs)(hne:vs ≠ [])(h8:(txt vs).length<=8000)(hr:Sc.a2y (txt vs)=.done l):Sc.KT l=vs.flatten:=by
 have hw:∀w∈vs,w ≠ []:=a5o h fun x w h=>by obtain⟨s,u,rfl,_⟩:=h.h;simp
 have hy:=ly_txt vs hw hne [] (.inl rfl);have:=(Sc.said (b:=[]) (ch_all (a5o h fun _ _ h=>h.b)) (.nil _) (by simpa using hy) h8 hr).1;simpa using this
theorem c6C:Sc.a2y []=.done []:=by
 obtain⟨m,h1,h2⟩:=Sc.say (u:=[]) (ws:=[]) (.nil _) .nil (by simp) (by simp);rw[h1];cases m with
 | nil=>rfl
 | cons a r=>simp[Sc.KT]at h2
theorem mod_lp (hn:400000<=n){src:Str}{l:List Tok}(hl:l.length<=3000)(h:V3 (DR Sc.V1) xs vs):∀(m k:Nat) (acc:List Nod),At l k vs.flatten->xs.length<m->acc.length+xs.length<=9000->1+a2K acc+a2K xs<=4000 ->(∀x∈xs,x.dep<=39/\x.sz<=12000) -> ∃ys,U1 n src l m ((1+a2K acc:Nat):Int) [] acc k=some ([],acc++ys)/\ers ys=ers xs:=by
 induction h with
 | nil =>
  intro m k acc hA hm ha hc hd;obtain⟨m,rfl⟩:∃q,m=q+1:=⟨m-1,by omega⟩
  have hw:=hA.wl;simp only[List.flatten_nil,List.length_nil]at hw;refine⟨[],?_,rfl⟩;rw[U1.eq_2,a0C (show ¬(k:Int)<(l.length:Int)by omega),List.append_nil];rfl
 | @cons x w xs vs h1 h2 ih =>
  intro m k acc hA hm ha hc hd;simp only[List.length_cons,a2K]at hm ha hc;obtain⟨m,rfl⟩:∃q,m=q+1:=⟨m-1,by omega⟩
  rw[List.flatten_cons]at hA;have hw:=hA.wl;obtain⟨hd1,hz⟩:=hd x (by simp);have hwn:1<=w.length:=by obtain⟨s,u,rfl,_⟩:=h1.h;simp
  rw[List.length_append]at hw;obtain⟨_,e,y,q,rfl,he,hA2⟩:=h1.r (size:=(src.length:Int)) hn hA;have hsz:y.sz=x.sz:=by rw[<-b8f,he,b8f]
  have hct:y.cnt=x.cnt:=by rw[<-c3Q,he,c3Q]
  have hdp:y.dep=x.dep:=by rw[<-c3T,he,c3T]
  obtain⟨ys,e2,he2⟩:=ih m q (acc++[y]) hA2 (by omega) (by simp only[List.length_append,List.length_singleton];omega) (by rw[b4w];simp only[a2K];omega) (fun z hz=>hd z (by simp[hz]));refine⟨y::ys,?_,a2g he he2⟩;have ec:((1+a2K (acc++[y]):Nat):Int)=w64 (((1+a2K acc:Nat):Int)+(y.cnt:Int)):=by
   rw[a4m (by omega) (by omega),b4w];simp only[a2K];omega
  rw[ec]at e2;rw[U1.eq_2,X6 (show(k:Int)<(l.length:Int)by omega)];have f0:ltB ((([]:List Flt).length:Nat):Int) 20=true:=X6 (by simp);simp only[NF,f0];rw[b7d hA.hl hA.hk];unfold a2i a4o;simp only[NF];rw[e];have z0:eqB 0 0=true:=a0z rfl;simp only[NF,z0,Bool.and_self];rw[c01 n y (by omega) (by omega)];have e1:w64 (1+(y.dep:Int)) =((1+y.dep:Nat):Int):=by rw[a4m (by omega) (by omega)];omega
  have g1:ltB 40 (w64 (1+(y.dep:Int)))=false:=by rw[e1];exact a0C (by omega)
  have g2:ltB 4000 (w64 (((1+a2K acc:Nat):Int)+(y.cnt:Int)))=false:=by rw[a4m (by omega) (by omega)];exact a0C (by omega)
  simp only[NF,g1,g2];rw[a3Z (by omega) (by simp) (by omega)];simp only[NF];rw[e2,List.append_assoc];rfl
theorem mod_of (hn:400000<=n)(h:V3 (DR Sc.V1) xs vs)(h8:(txt vs).length<=8000)(hr:Sc.a2y (txt vs)=.done l)(hc:1+a2K xs<=4000)(hz:szN xs<=12000)(hd:∀x∈xs,x.dep<=39):∃ys,a0r n (txt vs)=some (⟨1,[],0,zT,[],ys,0⟩,[])/\ers ys=ers xs:=by
 have hl:=b8k (txt vs);have hx:=R9 xs;have hk:kt ((a9b (Sc.a2y (txt vs))).drop 0)=vs.flatten:=by
  rw[List.drop_zero,kt_tok hr];by_cases hne:vs=[]
  ·subst hne;have e:Sc.a2y (txt [])=.done []:=c6C;rw[e]at hr;cases hr;rfl
  ·exact c6E h hne h8 hr
 obtain⟨ys,e,he⟩:=mod_lp hn (src:=txt vs) hl h n 0 [] ⟨hl,Nat.zero_le _,hk⟩ (by omega) (by simp only[List.length_nil];omega) (by simp only[a2K];omega) (fun x hx=>⟨hd x hx,by have:=a1Q hx;omega⟩);have e:U1 n (txt vs) (a9b (Sc.a2y (txt vs))) n 1 [] [] 0=some ([],ys):=e;refine⟨ys,?_,he⟩;have c1:b3G (Sc.a2y (txt vs))=0:=by rw[hr];rfl
 have c2:tokA (Sc.a2y (txt vs))=0:=by rw[hr];rfl
 unfold a0r a5W a8n;simp only[NF,c1,c2,show eqB 0 0=true from a0z rfl,Bool.and_self,e]
theorem module_v (hn:400000<=n)(s:Str):(∃f,a0r n s=some (zN,[f])) ∨ ∃xs fs,a0r n s=some (⟨1,[],0,zT,[],xs,0⟩,fs)/\1+a2K xs<=4000/\szN xs<=12000 /\ ∀x∈xs,G Sc.V1 18 x/\x.dep<=39:=by
 unfold a0r a5W a8n;simp only[NF];rcases c7T s with⟨h1,h2⟩|h1
 ·simp only[h1,h2,NF,Bool.and_self];have hl:=b8k s;obtain⟨a,e,h5,h6,h7⟩:=b7u (cx1 s) (n:=n) (src:=s) hn rfl n 0 [] [] (Nat.zero_le _) (by omega) (by simp) (by simp[a2K]) (by simp[szN]) all_nil;have e:U1 n s (a9b (Sc.a2y s)) n 1 [] [] 0=some a:=e;rw[e];exact .inr ⟨a.2,a.1,rfl,h5,h6,h7⟩
 ·simp only[h1,NF,Bool.false_and];exact .inl ⟨_,rfl⟩
theorem depN_le (h:∀x∈xs,x.dep<=39):b0J xs<=39:=by
 induction xs with
 | nil=>simp[b0J]
 | cons x r ih =>
  have h1:=h x (by simp);have h2:=ih fun y hy=>h y (by simp[hy]);simp only[b0J];omega
theorem valid_v (hn:400000<=n)(h:V3 (DR Sc.V1) xs vs)(h8:(txt vs).length<=8000)(hr:Sc.a2y (txt vs)=.done l)(hc:1+a2K xs<=4000)(hz:szN xs<=12000)(hd:∀x∈xs,x.dep<=39)(he:ers ys=ers xs):a5V n ⟨1,[],0,zT,[],ys,0⟩=some true:=by
 obtain⟨zs,e,he2⟩:=mod_of hn h h8 hr hc hz hd;have hzs:(⟨1,[],0,zT,[],ys,0⟩:Nod).sz<=13000:=by
  have hq:=a9B he;simp only[SZ];omega
 have hzz:(⟨1,[],0,zT,[],zs,0⟩:Nod).sz<=13000:=by
  have hq:=a9B he2;simp only[SZ];omega
 have c1:a2K ys=a2K xs:=by rw[<-b6i,he,b6i]
 have d1:b0J ys=b0J xs:=by rw[<-b6k,he,b6k]
 have d2:=depN_le hd;unfold a5V;rw[c01 n _ (by omega) (by omega)];have g1:ltB 4000 (((⟨1,[],0,zT,[],ys,0⟩:Nod).cnt:Nat):Int)=false:=a0C (by rw[Nod.cnt];omega);have g2:ltB 40 (((⟨1,[],0,zT,[],ys,0⟩:Nod).dep:Nat):Int)=false:=a0C (by rw[Nod.dep];omega);simp only[NF,g1,g2,show eqB 1 1=true from a0z rfl,b6u h hz he,e,show eqB ((([]:List Flt).length:Nat):Int) 0=true from a0z rfl];rw[b1i (n:=n) (by omega) (by omega) (er5 (he2.trans he.symm))];rfl
theorem c5c (s:Str):a5a 1000000 s=some true:=by
 unfold a5a b0R;simp only[NF,c3C];cases ltB 8200 (s.length:Int)
 ·simp only[NF];rcases module_v (n:=1000000) (by omega) s with⟨f,e⟩ |⟨xs,fs,e,hc,hz,hG⟩
  ·rw[e];have e2:a5O zN=some []:=b6u (xs:=[]) (ys:=[]) (vs:=[]) .nil (by simp[szN]) rfl;simp only[NF,e2,show ltB 0 ((([f]:List Flt).length:Nat):Int)=true from X6 (by simp)]
  ·rw[e];obtain⟨vs,h⟩:=b6f (R:=DR Sc.V1) fun x hx=>dr_of vo1 (hG x hx).1 (by have:=a1Q hx;omega);have e2:a5O ⟨1,[],0,zT,[],xs,0⟩=some (txt vs):=b6u h hz rfl;simp only[NF,e2];cases ltB 0 (fs.length:Int)
   ·simp only[NF];unfold b0Q a8n;rcases Nat.lt_or_ge 8000 (txt vs).length with g8|g8
    ·rw[X6 (by omega)];simp only[NF]
    ·rw[a0C (by omega)];simp only[NF];cases hr:Sc.a2y (txt vs)with
     | go y =>
      have:=(Sc.b42 (txt vs)).1;rw[hr]at this;exact this.elim
     | err c a =>
      have hne:vs ≠ []:=fun e=>by
       subst e;have:Sc.a2y (txt [])=.done []:=c6C;rw[this]at hr;cases hr
      obtain⟨r,k1,k2⟩:=trim_v h hne g8;rw[show a9b (Sc.MR.err c a)=[]from rfl,a0C (by simp)];simp only[NF,k1,k2]
     | done l =>
      obtain⟨ys,k1,k2⟩:=mod_of (n:=1000000) (by omega) h g8 hr hc hz fun x hx=>(hG x hx).2;have k3:a5O ⟨1,[],0,zT,[],ys,0⟩=some (txt vs):=b6u h hz k2;have k4:=valid_v (n:=1000000) (by omega) h g8 hr hc hz (fun x hx=>(hG x hx).2) k2;have k5:a07 1000000 ⟨1,[],0,zT,[],xs,0⟩ ⟨1,[],0,zT,[],ys,0⟩=some true:=b1i (by simp only[SZ];omega) (by simp only[SZ];omega) (er5 k2.symm);have fin:∀b:Bool,(cond (!b) (some true) ((a0r 1000000 (txt vs)).bind fun(r8,r9)=>cond (eqB (r9.length:Int) 0) ((a07 1000000 ⟨1,[],0,zT,[],xs,0⟩ r8).bind fun r10=>cond r10 ((a5O r8).bind fun rr11=>cond (eqS rr11 (txt vs)) ((a5V 1000000 r8).bind fun r12=>cond r12 (some true) (some false)) (some false)) (some false)) (some false)):Option Bool)=some true:=fun b=>by
       simp only[k1,NF,show eqB ((([]:List Flt).length:Nat):Int) 0=true from a0z rfl,k5,k3,a8J,k4];cases b<;>rfl
      rcases Nat.lt_or_ge 0 l.length with h0|h0
      ·rw[show(a9b (Sc.MR.done l)).length=l.length from by simp[a9b],X6 (by omega)];simp only[NF];exact fin true
      ·have hl0:l=[]:=List.length_eq_zero_iff.1 (by omega);subst hl0;have hne:vs=[]:=by
        by_cases hne:vs=[]
        ·exact hne
        ·have:=c6E h hne g8 hr;cases h with
         | nil=>rfl
         | cons h1 _ =>
          obtain⟨s,u,rfl,_⟩:=h1.h;simp[Sc.KT]at this
       subst hne;have ht:b9Q (txt [])=some []:=rfl;rw[show a9b (Sc.MR.done [])=[]from rfl,a0C (by simp)];simp only[NF,ht];exact fin _
   ·simp only[NF]
 ·rfl
end Go.Proofs.YtjhfloacokgdiaaGreatDoor
