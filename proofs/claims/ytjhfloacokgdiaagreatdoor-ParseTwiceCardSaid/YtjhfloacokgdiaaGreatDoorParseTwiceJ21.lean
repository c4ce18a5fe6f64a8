/- Texts of ParseTwice, joined. -/
import Derived.Test.YtjhfloacokgdiaaGreatDoorParseTwiceJ20
set_option maxRecDepth 100000
set_option maxHeartbeats 20000000
set_option linter.all false
namespace Go.Proofs.YtjhfloacokgdiaaGreatDoor
open Go Go.Vm Pr
variable {α β:Type} {a n o:Int} {ws:List Str} {ts:List Typ} {l:List α} {S:List α->Nat} {m:List β} {x:Nod} {s:Str} {t:Typ} {c:α->Nat}
theorem Typ.b4l (t:Typ):1<=t.sz:=by have:=t.a3X;omega
theorem c6x (t:Typ):szT [t]=t.sz:=by simp[szT]
def jo:List (List (Int×Str))->List (Int×Str) | []=>[] | [a]=>a|a::b::r=>a ++((8,[44])::jo (b::r))
def an (ws:List (List (Int×Str))):List (Int×Str):=match ws with
 | []=>[]
 | _::_=>(8,[60]) ::(jo ws++[(8,[62])])
def wk (k:Int)(s:Str)(ws:List (List (Int×Str))):List (Int×Str) :=if k=1 then [(2,[73,110,116])]else if k=2 then [(2,[66,111,111,108])]else if k=3 then [(2,[84,101,120,116])]else if k=4 then [(2,[85,110,105,116])]else if k=5 then(2,[65,114,114,97,121])::an ws else if k=11 then(2,[87,101,97,107])::an ws else if k=9 then [(9,[97,110,121]),(2,s)]else if k=8 then jo ws++[(8,[46]),(2,s)]else if k=10 then(8,[40]) ::(jo (ws.take (ws.length-1)) ++((8,[41]) ::(8,[45,62])::jo (ws.drop (ws.length-1))))else(2,s)::an ws
mutual
def W:Typ->List (Int×Str)
 |⟨k,s,_,a⟩=>wk k s (WW a)
def WW:List Typ->List (List (Int×Str))
 | []=>[]
 | t::r=>W t::WW r
end
theorem b6D (t:Typ):W t=wk t.kind t.name (WW t.args):=by cases t;rw[W]
theorem a5n:∀l:List Typ,WW l=l.map W
 | []=>by rw[WW];rfl
 | t::r=>by rw[WW,a5n r];rfl
def b8e (ws:List (List (Int×Str))):Nat:=(ws.map fun a=>a.length+1).sum
theorem b5y (a:List (Int×Str))(r:List (List (Int×Str))):b8e (a::r)=a.length+1+b8e r:=by simp[b8e]
theorem c4Z (ws:List (List (Int×Str)))(i:Nat):b8e (ws.take i)+b8e (ws.drop i)=b8e ws:=by
 unfold b8e;rw[<-List.sum_append,<-List.map_append,List.take_append_drop]
theorem b0P:∀ws,(jo ws).length<=b8e ws
 | []=>by simp[jo]
 | [a]=>by simp only[jo,b5y];omega
 | a::b::r=>by
  have:=b0P (b::r);simp only[jo,List.length_append,List.length_cons];rw[b5y a];omega
theorem an_len (ws:List (List (Int×Str))):(an ws).length<=b8e ws+2:=by
 cases ws with
 | nil=>simp[an]
 | cons a r=>have:=b0P (a::r);simp only[an,List.length_cons,List.length_append,List.length_nil];omega
theorem sumW:∀a:List Typ,(∀x∈a,(W x).length+1<=6*x.sz)->b8e (WW a)<=6*szT a
 | [],_=>by rw[WW];simp[b8e]
 | x::r,h=>by
  have h1:=sumW r fun y hy=>h y (by simp[hy]);have h2:=h x (by simp);rw[WW,b5y];simp only[szT];omega
theorem a4C:∀(N:Nat) (t:Typ),t.sz<=N ->(W t).length+1<=6*t.sz
 | 0,t,h=>by have:=t.b4l;omega
 | N+1,t,h=>by
  have hs:=t.a3X;have h1:=sumW t.args fun x hx=>a4C N x (by have:=a3w hx;omega);have h2:=an_len (WW t.args);have h3:=b0P (WW t.args);have h4:=b0P ((WW t.args).take ((WW t.args).length-1));have h5:=b0P ((WW t.args).drop ((WW t.args).length-1));have h6:=c4Z (WW t.args) ((WW t.args).length-1);rw[b6D];unfold wk;repeat' split
  all_goals simp only[List.length_cons,List.length_append,List.length_nil]
  all_goals omega
def sn (p:List (Int×Str)):List Str:=p.map Prod.snd
theorem sn_app (a b:List (Int×Str)):sn (a++b)=sn a++sn b:=by simp[sn]
theorem c02 (a:Int×Str)(b:List (Int×Str)):sn (a::b)=a.2::sn b:=rfl
theorem a4v {l:List Str}(h:ws.length+l.length<=1000000):j5 l ws=some (ws++l):=by
 unfold j5;rw[c3y (by omega)];rfl
theorem c6l {n:Nat}{Φ:w9}{l:List Typ}(hl:l.length<=100000):∀(rest pre:List Typ) (m:Nat) (ws:List Str),l=pre++rest->rest.length<m ->
  (∀x∈rest,∀us:List Str,us.length+8*x.sz<=500000->Φ.H7 x us=some (us++sn (W x)))->ws.length+8*szT rest+1<=500000 ->
  a1r n Φ l m pre.length ws=some (ws++sn (match rest with | []=>[]|_::_=>(if pre.length=0 then []else [(8,[44])])++jo (WW rest)))
 | rest,pre,0,ws,_,h,_,_=>absurd h (by omega)
 | [],pre,m+1,ws,e,_,_,_=>by
  rw[a1r,a0C (by rw[e,List.append_nil];omega),cond_false];simp[sn]
 | t::r,pre,m+1,ws,e,hm,hΦ,hb=>by
  have hln:l.length=pre.length+(r.length+1):=by rw[e];simp
  have hi:pre.length<l.length:=by omega
  have hx:idx' l (pre.length:Int)=some t:=by rw[a0k hi];subst e;simp
  have hW:=a4C _ t (Nat.le_refl _);simp only[szT]at hb;have hz:=t.b4l;have hin:∀{ρ:Type} (k:List Str->Option ρ),Option.bind (α:=List Str) (cond (ltB 0 (pre.length:Int)) ((j5 ([[44]]:List Str) ws).bind fun words4=>some words4) (some ws)) k=k (ws++sn (if pre.length=0 then []else [(8,[44])])):=by
   intro ρ k;by_cases h0:pre.length=0
   ·rw[a0C (by omega),if_pos h0];simp[sn]
   ·rw[X6 (by omega),if_neg h0,cond_true,a4v (by simp only[List.length_cons,List.length_nil];omega)];rfl
  rw[a1r,X6 (by omega),cond_true,hx,Option.bind_some,hin];have hl1:(ws++sn (if pre.length=0 then []else [(8,[44])])).length<=ws.length+1:=by split<;>simp[sn]
  rw[hΦ t (by simp) _ (by omega),Option.bind_some,H6 (by omega)];have ih:=c6l (n:=n) hl r (pre++[t]) m (ws++sn (if pre.length=0 then []else [(8,[44])])++sn (W t)) (by rw[e];simp) (by simp only[List.length_cons]at hm;omega) (fun x hx=>hΦ x (by simp[hx])) (by
   rw[List.length_append];have:(sn (W t)).length =(W t).length:=by simp[sn]
   omega)
  rw[List.length_append]at ih;have e2:((pre.length+[t].length:Nat):Int) =((pre.length+1:Nat):Int):=rfl;rw[e2]at ih;rw[ih];congr 1;cases r with
  | nil=>simp[sn,WW,jo]
  | cons u r=>simp[sn,WW,jo]
theorem pr:∀(N:Nat) (t:Typ) (n:Nat) (ws:List Str),t.sz<=N->3*t.sz+4<=n->ws.length+8*t.sz<=500000 ->(w9.fs n).H7 t ws=some (ws++sn (W t))
 | 0,t,n,ws,h,_,_=>by have:=t.b4l;omega
 | N+1,t,n,ws,h,hn,hb=>by
  have hs:=t.a3X;have hsl:=a5H t.args;obtain⟨q,rfl⟩:∃q,n=q+3:=⟨n-3,by omega⟩
  have hlist:∀(q':Nat) (a:List Typ) (us:List Str),q<=q' ->(∀x∈a,x∈t.args)->szT a<=szT t.args->us.length+8*szT a+1<=500000 ->(w9.fs (q'+1)).Q0 a us=some (us++sn (jo (WW a))):=by
   intro q' a us h1 h2 h3 h4;have hal:=a5H a;have g:=c6l (n:=q') (Φ:=w9.fs q') (l:=a) (by omega) a [] q' us rfl (by omega) (fun x hx vs hv=>pr N x q' vs (by have:=a3w (h2 x hx);omega) (by have:=a3w (h2 x hx);omega) hv) h4;show a3m q' (w9.fs q') a us=_;unfold a3m;have g:a1r q' (w9.fs q') a q' 0 us=_:=g;rw[g];cases a with
   | nil=>simp[WW,jo,sn]
   | cons x r=>rfl
  have hargs:∀us:List Str,us.length+8*szT t.args+2<=500000 ->(w9.fs (q+2)).V8 t.args us=some (us++sn (an (WW t.args))):=by
   intro us h4;show a2t (q+1) (w9.fs (q+1)) t.args us=_;unfold a2t;have hjl:=b0P (WW t.args);have hsw:=sumW t.args fun x hx=>a4C _ x (Nat.le_refl _);cases ha:t.args with
   | nil=>rw[a0C (by simp),cond_false];simp[WW,an,sn]
   | cons x r =>
    rw[<-ha];rw[X6 (by rw[ha];simp only[List.length_cons];omega),cond_true,a4v (by simp only[List.length_cons,List.length_nil];omega),Option.bind_some,
     hlist q t.args _ (Nat.le_refl _) (fun x hx=>hx) (Nat.le_refl _) (by simp only[List.length_append,List.length_cons,List.length_nil];omega),Option.bind_some,
     a4v (by simp only[List.length_append,List.length_cons,List.length_nil,sn,List.length_map];omega)]
    rw[ha];simp[WW,an,sn]
  have hjl:=b0P (WW t.args);have hsw:=sumW t.args fun x hx=>a4C _ x (Nat.le_refl _);show a2T (q+2) (w9.fs (q+2)) t ws=_;unfold a2T;rw[b6D];unfold wk;by_cases k1:t.kind=1
  ·rw[a0z k1,cond_true,if_pos k1,a4v (by simp only[List.length_cons,List.length_nil];omega)];rfl
  rw[a1t k1,cond_false,if_neg k1];by_cases k2:t.kind=2
  ·rw[a0z k2,cond_true,if_pos k2,a4v (by simp only[List.length_cons,List.length_nil];omega)];rfl
  rw[a1t k2,cond_false,if_neg k2];by_cases k3:t.kind=3
  ·rw[a0z k3,cond_true,if_pos k3,a4v (by simp only[List.length_cons,List.length_nil];omega)];rfl
  rw[a1t k3,cond_false,if_neg k3];by_cases k4:t.kind=4
  ·rw[a0z k4,cond_true,if_pos k4,a4v (by simp only[List.length_cons,List.length_nil];omega)];rfl
  rw[a1t k4,cond_false,if_neg k4];by_cases k5:t.kind=5
  ·rw[a0z k5,cond_true,if_pos k5,a4v (by simp only[List.length_cons,List.length_nil];omega),Option.bind_some,hargs _ (by simp only[List.length_append,List.length_cons,List.length_nil];omega),Option.bind_some,c02,List.append_assoc];rfl
  rw[a1t k5,cond_false,if_neg k5];by_cases k11:t.kind=11
  ·rw[a0z k11,cond_true,if_pos k11,a4v (by simp only[List.length_cons,List.length_nil];omega),Option.bind_some,hargs _ (by simp only[List.length_append,List.length_cons,List.length_nil];omega),Option.bind_some,c02,List.append_assoc];rfl
  rw[a1t k11,cond_false,if_neg k11];by_cases k9:t.kind=9
  ·rw[a0z k9,cond_true,if_pos k9,a4v (by simp only[List.length_cons,List.length_nil];omega)];rfl
  rw[a1t k9,cond_false,if_neg k9];by_cases k8:t.kind=8
  ·rw[a0z k8,cond_true,if_pos k8,hlist (q+1) t.args ws (by omega) (fun x hx=>hx) (Nat.le_refl _) (by omega),Option.bind_some,a4v (by simp only[List.length_append,List.length_cons,List.length_nil,sn,List.length_map];omega),Option.bind_some,sn_app,List.append_assoc];rfl
  rw[a1t k8,cond_false,if_neg k8];by_cases k10:t.kind=10
  ·have hmx:max (w64 ((t.args.length:Int)-1)) 0 =((t.args.length-1:Nat):Int):=by
    rw[a4m (by omega) (by omega),Int.max_def];split<;>omega
   have hwl:(WW t.args).length=t.args.length:=by rw[a5n,List.length_map]
   have ht1:∀x∈t.args.take (t.args.length-1),x∈t.args:=fun x hx=>List.mem_of_mem_take hx;have ht2:∀x∈t.args.drop (t.args.length-1),x∈t.args:=fun x hx=>List.mem_of_mem_drop hx;have hsz:szT (t.args.take (t.args.length-1))+szT (t.args.drop (t.args.length-1))=szT t.args:=by rw[<-b1k,List.take_append_drop]
   have hj1:=b0P (WW (t.args.take (t.args.length-1)));have hs1:=sumW (t.args.take (t.args.length-1)) fun x hx=>a4C _ x (Nat.le_refl _);have s1:b2Y t.args 0 ((t.args.length-1:Nat):Int)=some (t.args.take (t.args.length-1)):=by
    rw[show(0:Int) =((0:Nat):Int)from rfl,b4Y (by omega) (by omega)];rfl
   have s2:b2Y t.args ((t.args.length-1:Nat):Int) (t.args.length:Int)=some (t.args.drop (t.args.length-1)):=by
    rw[b4Y (by omega) (Nat.le_refl _),List.take_length]
   rw[a0z k10,cond_true,if_pos k10,a4v (by simp only[List.length_cons,List.length_nil];omega),Option.bind_some,hmx,s1,Option.bind_some,
    hlist (q+1) _ _ (by omega) ht1 (by omega) (by simp only[List.length_append,List.length_cons,List.length_nil];omega),Option.bind_some,
    a4v (by simp only[List.length_append,List.length_cons,List.length_nil,sn,List.length_map];omega),Option.bind_some,s2,Option.bind_some,
    hlist (q+1) _ _ (by omega) ht2 (by omega) (by simp only[List.length_append,List.length_cons,List.length_nil,sn,List.length_map];omega),Option.bind_some]
   rw[hwl,a5n,a5n,a5n,List.map_take,List.map_drop];simp[sn]
  rw[a1t k10,cond_false,if_neg k10,a4v (by simp only[List.length_cons,List.length_nil];omega),Option.bind_some,hargs _ (by simp only[List.length_append,List.length_cons,List.length_nil];omega),Option.bind_some,c02,List.append_assoc];rfl
abbrev WK:=Int×Str
variable {R:α->List WK->Prop}
def spl (p:WK):Str:=if p.1=4 then 34 ::(Rp.esc p.2++[34])else if p.1=5 then 34 ::(Rp.esc p.2++[92,40])else if p.1=6 then 41 ::(Rp.esc p.2++[92,40])else if p.1=7 then 41 ::(Rp.esc p.2++[34])else p.2
def sp (l:List WK):List Str:=l.map spl
theorem SPL:(∀s,spl (1,s)=s)/\(∀s,spl (2,s)=s)/\(∀s,spl (3,s)=s)/\(∀s,spl (8,s)=s)/\(∀s,spl (9,s)=s)/\sp []=[]/\(∀(a:WK) (b:List WK),sp (a::b)=spl a::sp b)/\(∀a b:List WK,sp (a++b)=sp a++sp b)/\(∀a:List WK,(sp a).length=a.length) :=
 ⟨fun _=>rfl,fun _=>rfl,fun _=>rfl,fun _=>rfl,fun _=>rfl,rfl,fun _ _=>rfl,fun _ _=>List.map_append,fun _=>List.length_map ..⟩
theorem SPQ:(∀s,spl (4,s)=34 ::(Rp.esc s++[34]))/\(∀s,spl (5,s)=34 ::(Rp.esc s++[92,40]))/\(∀s,spl (6,s)=41 ::(Rp.esc s++[92,40]))/\(∀s,spl (7,s)=41 ::(Rp.esc s++[34])):=⟨fun _=>rfl,fun _=>rfl,fun _=>rfl,fun _=>rfl⟩
theorem sp_sn:∀{l:List WK},(∀p∈l,p.1=2∨p.1=8∨p.1=9)->sp l=sn l
 | [],_=>rfl
 | p::r,h=>by
  obtain⟨k,s⟩:=p;have h1:=h (k,s) (by simp);have h1:k=2∨k=8∨k=9:=h1;rw[show sp ((k,s)::r)=spl (k,s)::sp r from rfl,sp_sn fun q hq=>h q (by simp[hq])];rcases h1 with rfl|rfl|rfl<;>rfl
theorem jo_all {P:WK->Prop}(hc:P (8,[44])):∀{l:List (List WK)},(∀a∈l,∀p∈a,P p) -> ∀p∈jo l,P p
 | [],_,p,hp=>by cases hp
 | [a],h,p,hp=>h a (by simp) p hp
 | a::b::r,h,p,hp=>by
  rw[jo]at hp;rcases List.mem_append.1 hp with hp|hp
  ·exact h a (by simp) p hp
  ·rcases List.mem_cons.1 hp with rfl|hp
   ·exact hc
   ·exact jo_all hc (fun x hx=>h x (by simp at hx ⊢;exact .inr hx)) p hp
theorem c5l:∀(n:Nat) (t:Typ),t.sz<=n -> ∀p∈W t,p.1=2∨p.1=8∨p.1=9
 | 0,t,h=>by have:=t.b4l;omega
 | n+1,t,h=>by
  have hs:=t.a3X;have H:∀(l:List Typ),(∀x∈l,x∈t.args) -> ∀p∈jo (WW l),p.1=2∨p.1=8∨p.1=9:=fun l hl=>jo_all (.inr (.inl rfl)) fun a ha=>by
   rw[a5n]at ha;obtain⟨x,hx,rfl⟩:=List.mem_map.1 ha;have:=a3w (hl x hx);exact c5l n x (by omega)
  have HA:∀p∈an (WW t.args),p.1=2∨p.1=8∨p.1=9:=fun p hp=>by
   have hj:=H t.args fun _ h=>h;unfold an at hp;split at hp
   ·cases hp
   ·
    rcases List.mem_cons.1 hp with rfl|hp
    ·exact .inr (.inl rfl)
    ·rcases List.mem_append.1 hp with hp|hp
     ·exact hj p hp
     ·rcases List.mem_singleton.1 hp with rfl;exact .inr (.inl rfl)
  have ht:∀i,∀p∈jo ((WW t.args).take i),p.1=2∨p.1=8∨p.1=9:=fun i=>by
   rw[a5n,<-List.map_take,<-a5n];exact H _ fun x hx=>List.mem_of_mem_take hx
  have hd:∀i,∀p∈jo ((WW t.args).drop i),p.1=2∨p.1=8∨p.1=9:=fun i=>by
   rw[a5n,<-List.map_drop,<-a5n];exact H _ fun x hx=>List.mem_of_mem_drop hx
  have hj:=H t.args fun _ h=>h;intro p hp;rw[b6D]at hp;unfold wk at hp;have one:∀{k:Int} {s:Str},(k=2∨k=8∨k=9)->p =(k,s)->p.1=2∨p.1=8∨p.1=9:=fun h e=>by rw[e];exact h
  repeat' split at hp
  all_goals simp only[List.mem_cons,List.mem_append,List.not_mem_nil,or_false]at hp
  ·exact one (.inl rfl) hp
  ·exact one (.inl rfl) hp
  ·exact one (.inl rfl) hp
  ·exact one (.inl rfl) hp
  ·exact hp.elim (one (.inl rfl)) (HA p)
  ·exact hp.elim (one (.inl rfl)) (HA p)
  ·exact hp.elim (one (.inr (.inr rfl))) (one (.inl rfl))
  ·exact hp.elim (hj p) fun h=>h.elim (one (.inr (.inl rfl))) (one (.inl rfl))
  ·exact hp.elim (one (.inr (.inl rfl))) fun h=>h.elim (ht _ p) fun h=>h.elim (one (.inr (.inl rfl))) fun h=>h.elim (one (.inr (.inl rfl))) (hd _ p)
  ·exact hp.elim (one (.inl rfl)) (HA p)
theorem b2T {l:List Str}(h:ws.length+l.length<=1000000):j5 l ws=some (ws++l):=a4v h
theorem typ_v {n:Nat}(hn:3*t.sz+4<=n)(h:ws.length+8*t.sz<=500000):H7 n t ws=some (ws++sp (W t)):=by
 rw[sp_sn (c5l t.sz t (Nat.le_refl _))];exact pr t.sz t n ws (Nat.le_refl _) hn h
inductive V3 {α β:Type}(R:α->β->Prop):List α->List β->Prop
 | nil:V3 R [] []
 | cons {a:α} {b:β} {l:List α} {m:List β}:R a b->V3 R l m->V3 R (a::l) (b::m)
theorem b6f {α β:Type}{R:α->β->Prop}:∀{l:List α},(∀x∈l,∃w,R x w) -> ∃ws,V3 R l ws
 | [],_=>⟨[],.nil⟩
 | x::r,h=>by
  obtain⟨w,h1⟩:=h x (by simp);obtain⟨ws,h2⟩:=b6f (l:=r) fun y hy=>h y (by simp[hy]);exact⟨w::ws,.cons h1 h2⟩
theorem V3.len {R:α->β->Prop}(h:V3 R l m):m.length=l.length:=by
 induction h with
 | nil=>rfl
 | cons _ _ ih=>simp[ih]
theorem V3.imp {R S:α->β->Prop}(h:V3 R l m)(hi:∀a b,a∈l->R a b->S a b):V3 S l m:=by
 induction h with
 | nil=>exact .nil
 | cons h1 _ ih=>exact .cons (hi _ _ (by simp) h1) (ih fun a b ha=>hi a b (by simp[ha]))
theorem WL:(∀a b:List Str,(a++b).length=a.length+b.length)/\(∀a b:List WK,(a++b).length=a.length+b.length)/\(∀(a:WK) (b:List WK),(a::b).length=b.length+1)/\(∀(a:Str) (b:List Str),(a::b).length=b.length+1)/\([]:List WK).length=0/\([]:List Str).length=0/\(∀a:List WK,(sp a).length=a.length):=⟨fun _ _=>List.length_append ..,fun _ _=>List.length_append ..,fun _ _=>rfl,fun _ _=>rfl,rfl,rfl,SPL.2.2.2.2.2.2.2.2⟩
theorem lp_j (hS:∀x r,S (x::r)=c x+S r)(hc:∀x w,R x w->w.length+1<=c x){L:Nat->Int->List Str->Option (List Str)}(hL:l.length<=1000000000)
  (step:∀(m i:Nat) (x:α) (w:List WK) (ws:List Str),x∈l->R x w->ltB (i:Int) (l.length:Int)=true->idx' l (i:Int)=some x->w64 ((i:Int)+1) =((i+1:Nat):Int) ->(i=0/\ltB 0 (i:Int)=false∨0<i/\ltB 0 (i:Int)=true)->ws.length+c x<=500000->L (m+1) i ws=L m ((i+1:Nat):Int) (ws++sp ((if i=0 then []else [(8,[44])])++w)))
  (stop:∀(m:Nat) (ws:List Str),ltB (l.length:Int) (l.length:Int)=false->L (m+1) (l.length:Int) ws=some ws) :
  ∀{vs:List (List WK)},V3 R l vs -> ∀{n:Nat} {ws:List Str},l.length<n->ws.length+S l<=500000->L n 0 ws=some (ws++sp (jo vs)):=by
 have key:∀(rest pre:List α) (vs:List (List WK)) (m:Nat) (ws:List Str),l=pre++rest->V3 R rest vs->rest.length<m->ws.length+S rest<=500000->L m pre.length ws=some (ws++sp (match vs with | []=>[]|_::_=>(if pre.length=0 then []else [(8,[44])])++jo vs)):=by
  intro rest;induction rest with
  | nil =>
   intro pre vs m ws e hA hm hw;cases hA;obtain⟨q,rfl⟩:∃q,m=q+1:=⟨m-1,by simp only[List.length_nil]at hm;omega⟩
   rw[List.append_nil]at e;subst e;rw[stop q ws (a0C (by omega))];simp[sp]
  | cons x r ih =>
   intro pre vs m ws e hA hm hw;cases hA with
   | cons hR hA =>
    rename_i w us;obtain⟨q,rfl⟩:∃q,m=q+1:=⟨m-1,by omega⟩
    have hln:l.length=pre.length+(r.length+1):=by rw[e];simp
    have hi:pre.length<l.length:=by omega
    have hx:idx' l (pre.length:Int)=some x:=by rw[a0k hi];subst e;simp
    have hwc:=hc x w hR;rw[hS]at hw;rw[step q pre.length x w ws (by rw[e];simp) hR (X6 (by omega)) hx (H6 (by omega)) (by
     rcases Nat.eq_zero_or_pos pre.length with h|h
     ·exact .inl ⟨h,a0C (by omega)⟩
     ·exact .inr ⟨h,X6 (by omega)⟩) (by omega)]
    have ih2:=ih (pre++[x]) us q (ws++sp ((if pre.length=0 then []else [(8,[44])])++w)) (by rw[e];simp) hA (by simp only[List.length_cons]at hm;omega) (by
     rw[List.length_append,SPL.2.2.2.2.2.2.2.2,List.length_append];split
     ·simp only[List.length_nil];omega
     ·simp only[List.length_cons,List.length_nil];omega)
    rw[List.length_append]at ih2;have e2:((pre.length+[x].length:Nat):Int) =((pre.length+1:Nat):Int):=rfl;rw[e2]at ih2;rw[ih2];congr 1;cases us with
    | nil=>simp[jo,sp]
    | cons u us=>simp[jo,sp]
 intro vs hA n ws hn hw;have h:=key l [] vs n ws rfl hA hn hw;have h:L n 0 ws=_:=h;rw[h];cases vs with
 | nil=>rfl
 | cons v vs=>rfl
theorem lp_f (hS:∀x r,S (x::r)=c x+S r)(hc:∀x w,R x w->w.length+1<=c x){B:Type}{L:Nat->Int->List Str->Option B}{fin:List Str->Option B}(hL:l.length<=1000000000)
  (step:∀(m i:Nat) (x:α) (w:List WK) (ws:List Str),x∈l->R x w->ltB (i:Int) (l.length:Int)=true->idx' l (i:Int)=some x->w64 ((i:Int)+1) =((i+1:Nat):Int)->ws.length+c x<=500000->L (m+1) i ws=L m ((i+1:Nat):Int) (ws++sp w))
  (stop:∀(m:Nat) (ws:List Str),ltB (l.length:Int) (l.length:Int)=false->L (m+1) (l.length:Int) ws=fin ws) :
  ∀{vs:List (List WK)},V3 R l vs -> ∀{n:Nat} {ws:List Str},l.length<n->ws.length+S l<=500000->L n 0 ws=fin (ws++sp vs.flatten):=by
 have key:∀(rest pre:List α) (vs:List (List WK)) (m:Nat) (ws:List Str),l=pre++rest->V3 R rest vs->rest.length<m->ws.length+S rest<=500000->L m pre.length ws=fin (ws++sp vs.flatten):=by
  intro rest;induction rest with
  | nil =>
   intro pre vs m ws e hA hm hw;cases hA;obtain⟨q,rfl⟩:∃q,m=q+1:=⟨m-1,by simp only[List.length_nil]at hm;omega⟩
   rw[List.append_nil]at e;subst e;rw[stop q ws (a0C (by omega))];simp[sp]
  | cons x r ih =>
   intro pre vs m ws e hA hm hw;cases hA with
   | cons hR hA =>
    rename_i w us;obtain⟨q,rfl⟩:∃q,m=q+1:=⟨m-1,by omega⟩
    have hln:l.length=pre.length+(r.length+1):=by rw[e];simp
    have hi:pre.length<l.length:=by omega
    have hx:idx' l (pre.length:Int)=some x:=by rw[a0k hi];subst e;simp
    have hwc:=hc x w hR;rw[hS]at hw;rw[step q pre.length x w ws (by rw[e];simp) hR (X6 (by omega)) hx (H6 (by omega)) (by omega)];have ih2:=ih (pre++[x]) us q (ws++sp w) (by rw[e];simp) hA (by simp only[List.length_cons]at hm;omega) (by rw[List.length_append,SPL.2.2.2.2.2.2.2.2];omega);rw[List.length_append]at ih2;have e2:((pre.length+[x].length:Nat):Int) =((pre.length+1:Nat):Int):=rfl;rw[e2]at ih2;rw[ih2];simp[sp]
 intro vs hA n ws hn hw;exact key l [] vs n ws rfl hA hn hw
theorem b4F (h0:S []=0)(hS:∀x r,S (x::r)=c x+S r)(hc:∀x w,R x w->w.length+1<=c x){vs:List (List WK)}(h:V3 R l vs):(jo vs).length<=S l/\vs.flatten.length<=S l:=by
 induction h with
 | nil=>simp[jo]
 | @cons x w r us hR hA ih =>
  have:=hc _ _ hR;rw[hS,List.flatten_cons,List.length_append];cases us with
  | nil=>simp only[jo,List.flatten_nil,List.length_nil]at ih ⊢;omega
  | cons u us=>simp only[jo,List.length_append,List.length_cons]at ih ⊢;omega
theorem app144 {l m:List Nod}(h1:l.length<=10000000000)(h2:m.length<=10):app 144 l m=some (l++m):=by
 refine c3y ?_;omega
theorem of_p {n:Nat}{x:Nod}{o:Int}(hn:3<=n)(hL:x.l.length<=1000000000):∀(m i:Nat) (r:List Nod),x.l.length<m+i->i<=x.l.length->r.length<=i->a5Y n x [o] m r i=some (r ++(x.l.drop i).filter fun y=>eqB y.op o)
 | 0,_,_,_,_,_=>by omega
 | m+1,i,r,h1,h2,h3=>by
  rw[a5Y.eq_2];rcases Nat.lt_or_ge i x.l.length with h|h
  ·obtain⟨q,rfl⟩:∃q,n=q+2:=⟨n-2,by omega⟩
   have e1:idx' [o] 0=some o:=a0k (l:=[o]) (i:=0) (by simp);have e2:w64 (0+1)=1:=by decide
   have c1:ltB 0 ((1:Nat):Int)=true:=X6 (by omega);have c2:ltB 1 ((1:Nat):Int)=false:=a0C (by omega);rw[X6 (by omega),a0k h,drop_eq h];simp only[NF,a5Z.eq_2,List.length_singleton,c1,c2,e1,e2,List.filter_cons];cases hb:eqB x.l[i].op o
   ·simp only[NF,H6 (show i<=1000000000000 by omega)];exact of_p hn hL m (i+1) r (by omega) (by omega) (by omega)
   ·simp only[NF,app144 (show r.length<=10000000000 by omega) (show [x.l[i]].length<=10 by simp),H6 (show i<=1000000000000 by omega),if_true];rw[of_p hn hL m (i+1) (r++[x.l[i]]) (by omega) (by omega) (by simp;omega)];simp
  ·rw[a0C (by omega),List.drop_of_length_le h];simp
theorem ofs {n:Nat}(hn:x.l.length+3<=n)(hL:x.l.length<=1000000000):a1J n x [o]=some (x.l.filter fun y=>eqB y.op o):=by
 unfold a1J;have h1:=of_p (n:=n) (x:=x) (o:=o) (by omega) hL n 0 [] (by omega) (Nat.zero_le _) (Nat.le_refl _);simp only[List.drop_zero,List.nil_append,Int.natCast_zero]at h1;rw[h1];rfl
theorem kid0 {l:List Nod}:R8 ⟨o,s,n,t,ts,x::l,a⟩ 0=some x:=by
 unfold R8;rw[X6 (by simp only[List.length_cons];omega),show idx' (x::l) 0=some x from a0k (l:=x::l) (i:=0) (Nat.succ_pos _)];rfl
theorem kid1 {y:Nod}{l:List Nod}:R8 ⟨o,s,n,t,ts,x::y::l,a⟩ 1=some y:=by
 unfold R8;rw[X6 (by simp only[List.length_cons];omega),show idx' (x::y::l) 1=some y from a0k (l:=x::y::l) (i:=1) (by simp)];rfl
theorem rest1 {l:List Nod}:a5N ⟨o,s,n,t,ts,x::l,a⟩ 1=some l:=by
 unfold a5N;cases l with
 | nil=>rw[a0C (by simp)];rfl
 | cons y r =>
  rw[X6 (by simp only[List.length_cons];omega),show b2Y (x::y::r) 1 (((x::y::r).length:Nat):Int)=_ from b4Y (l:=x::y::r) (a:=1) (b:=(x::y::r).length) (by simp) (Nat.le_refl _)];simp[NF]
theorem esc_v (h:s.length<=20000):escG s=some (Rp.esc s):=by
 unfold escG leN;rw[decide_eq_true (by omega)]
theorem cat_v {a b:Str}(h:a.length+b.length<=100000):cat a b=some (a++b):=by
 unfold cat
 rw[b9d (by omega)]
theorem b6v (h:s.length<=20000)(c:UInt8)(q:Str)(hq:q.length<=10):cat [c] (Rp.esc s)=some (c::Rp.esc s)/\cat (c::Rp.esc s) q=some (c ::(Rp.esc s++q)):=by
 have:=Rp.b2n s;exact⟨cat_v (a:=[c]) (by simp only[List.length_singleton];omega),cat_v (by rw[List.length_cons];omega)⟩
variable {a:Int} {vs:List (List WK)} {l:List Nod} {u v w:List WK} {x y z:Nod} {s:Str} {t:Typ}
def PX (x:Nod)(w:List WK):Prop:=w.length+1<=8*x.sz /\ ∀n ws,20*x.sz+20<=n->ws.length+8*x.sz<=500001 ->(j6.fs n).F8 x ws=some (ws++sp w)
def PU (x:Nod)(w:List WK):Prop:=w.length+1<=8*x.sz /\ ∀n ws,20*x.sz+15<=n->ws.length+8*x.sz<=500001 ->(j6.fs n).a0B x ws=some (ws++sp w)
def PS (x:Nod)(w:List WK):Prop:=w.length+1<=8*x.sz /\ ∀n ws,20*x.sz+20<=n->ws.length+8*x.sz<=500001 ->(j6.fs n).M9 x ws=some (ws++sp w)
def PB (x:Nod)(w:List WK):Prop:=w.length+1<=8*x.sz /\ ∀n ws,20*x.sz+20<=n->ws.length+8*x.sz<=500001 ->(j6.fs n).I4 x ws=some (ws++sp w)
def PT (x:Nod)(w:List WK):Prop:=w.length+1<=8*x.sz /\ ∀n ws,20*x.sz+20<=n->ws.length+8*x.sz<=500001 ->(q9.fs n).O6 x ws=some (ws++sp w)
def PM (x:Nod)(w:List WK):Prop:=w.length+1<=8*x.sz /\ ∀n ws,20*x.sz+20<=n->ws.length+8*x.sz<=500001->a0x n x ws=some (ws++sp w)
theorem prt {P:Prop}(x:P:=by
 simp (disch:=(first|omega |(simp only[WL];omega))) only[NF,CD,a9m,Int.reduceEq,decide_true,decide_false,b2T,typ_v,kid0,kid1,rest1,R,SPL,SPQ,List.append_assoc,List.cons_append,List.nil_append,List.append_nil]):P:=x
theorem c8 (x:Nod)(r:List Nod):(fun l=>8*szN l) (x::r) =(fun x=>8*x.sz) x+(fun l=>8*szN l) r:=by simp only[szN];omega
def cw (vs:List (List WK)):List WK:=(8,[40]) ::(jo vs++[(8,[41])])
theorem c0T (h:V3 PX l vs):(jo vs).length<=8*szN l /\ ∀n ws,20*szN l+30<=n->ws.length+8*szN l<=500000->szN l<=100000000 ->(j6.fs n).W9 l ws=some (ws++sp (jo vs)):=by
 have hl:=a00 l;refine⟨(b4F (R:=PX) (c:=fun x=>8*x.sz) (S:=fun l=>8*szN l) rfl c8 (fun x w h=>h.1) h).1,fun n ws hn hw hz=>?_⟩;obtain⟨n,rfl⟩:∃m,n=m+1:=⟨n-1,by omega⟩
 exact lp_j (R:=PX) (c:=fun x=>8*x.sz) (S:=fun l=>8*szN l) c8 (fun x w h=>h.1) (L:=fun m i ws=>a1Z n (j6.fs n) l m i ws) (by omega) (fun m i x w ws hx hR e1 e2 e3 e4 hb=>by
  have:=a1Q hx;have R:=hR.2 n;rw[a1Z.eq_2,e1,e2];rcases e4 with⟨rfl,e4⟩ |⟨hi,e4⟩
  ·have R:=And.intro (fun ws h=>R ws (by omega) h) (And.intro e4 e3);rw[if_pos rfl];exact prt
  ·have R:=And.intro (fun ws h=>R ws (by omega) h) (And.intro e4 e3);rw[if_neg (by omega)];exact prt) (fun m ws e=>by
  rw[a1Z.eq_2,e];rfl) h (by omega) hw
theorem a7l (h:V3 PX l vs):(cw vs).length<=8*szN l+2 /\ ∀n ws,20*szN l+40<=n->ws.length+8*szN l+4<=500000->szN l<=100000000 ->(j6.fs n).P5 l ws=some (ws++sp (cw vs)):=by
 obtain⟨h1,h2⟩:=c0T h;refine⟨by unfold cw;simp only[WL];omega,fun n ws hn hw hz=>?_⟩;obtain⟨n,rfl⟩:∃m,n=m+1:=⟨n-1,by omega⟩
 have R:=fun ws h=>h2 n ws (by omega) h hz;show a2u n (j6.fs n) l ws=_;unfold a2u cw;exact prt
def rwd (x:Nod)(w:List WK):List WK:=cond (eqB x.op 61||eqB x.op 63||eqB x.op 66||eqB x.op 65) ((8,[40]) ::(w++[(8,[41])])) w
theorem c0U (h:PX x w):(rwd x w).length+1<=8*x.sz+2 /\ ∀n ws,20*x.sz+25<=n->ws.length+8*x.sz+4<=500000 ->(j6.fs n).O8 x ws=some (ws++sp (rwd x w)):=by
 obtain⟨h1,h2⟩:=h;refine⟨by unfold rwd;cases(eqB x.op 61||eqB x.op 63||eqB x.op 66||eqB x.op 65)<;>simp only[NF,WL]<;>omega,fun n ws hn hw=>?_⟩;obtain⟨n,rfl⟩:∃m,n=m+1:=⟨n-1,by omega⟩
 have R:=fun ws h=>h2 n ws (by omega) h;show a1A n (j6.fs n) x ws=_;unfold a1A rwd;cases e1:eqB x.op 61<;>cases e2:eqB x.op 63<;>cases e3:eqB x.op 66<;>cases e4:eqB x.op 65<;>simp only[Bool.or_false,Bool.false_or,Bool.or_true,Bool.true_or]<;>exact prt
theorem pxI (h1:w.length+1<=8*x.sz:=by simp only[SZ,WL]at *;omega)(h:∀n ws,20*x.sz+20<=n+1->ws.length+8*x.sz<=500001->O5 n (j6.fs n) x ws=some (ws++sp w):=by intro n ws hn hw;simp only[SZ]at hn hw;unfold O5;exact prt):PX x w:=⟨h1,fun n ws hn hw=>by
 obtain⟨n,rfl⟩:∃m,n=m+1:=⟨n-1,by omega⟩
 exact h n ws hn hw⟩
theorem puI (h1:w.length+1<=8*x.sz:=by simp only[SZ,WL]at *;omega)(h:∀n ws,20*x.sz+15<=n+1->ws.length+8*x.sz<=500001->a2U n (j6.fs n) x ws=some (ws++sp w):=by intro n ws hn hw;simp only[SZ]at hn hw;unfold a2U;exact prt):PU x w:=⟨h1,fun n ws hn hw=>by
 obtain⟨n,rfl⟩:∃m,n=m+1:=⟨n-1,by omega⟩
 exact h n ws hn hw⟩
theorem psI (h1:w.length+1<=8*x.sz:=by simp only[SZ,WL]at *;omega)(h:∀n ws,20*x.sz+20<=n+1->ws.length+8*x.sz<=500001->Z6 n (j6.fs n) x ws=some (ws++sp w):=by intro n ws hn hw;simp only[SZ]at hn hw;unfold Z6;exact prt):PS x w:=⟨h1,fun n ws hn hw=>by
 obtain⟨n,rfl⟩:∃m,n=m+1:=⟨n-1,by omega⟩
 exact h n ws hn hw⟩
theorem ptI (h1:w.length+1<=8*x.sz:=by simp only[SZ,WL]at *;omega)(h:∀n ws,20*x.sz+20<=n+1->ws.length+8*x.sz<=500001->I9 n (q9.fs n) x ws=some (ws++sp w):=by intro n ws hn hw;simp only[SZ]at hn hw;unfold I9;exact prt):PT x w:=⟨h1,fun n ws hn hw=>by
 obtain⟨n,rfl⟩:∃m,n=m+1:=⟨n-1,by omega⟩
 exact h n ws hn hw⟩
theorem px_tru :PX ⟨51,[],1,zT,[],[],a⟩ ([(9,[116,114,117,101])]):=by
 have R:=show ∀ws,U3 1 ws=j5 [[116,114,117,101]] ws from fun ws=>by unfold U3;rw[a0z rfl];simp only[NF];cases j5 [[116,114,117,101]] ws<;>rfl
 exact pxI
theorem px_fal :PX ⟨51,[],0,zT,[],[],a⟩ ([(9,[102,97,108,115,101])]):=by
 have R:=show ∀ws,U3 0 ws=j5 [[102,97,108,115,101]] ws from fun ws=>by unfold U3;rw[a1t (by omega)];simp only[NF];cases j5 [[102,97,108,115,101]] ws<;>rfl
 exact pxI
theorem px_text (hs:s.length<=20000):PX ⟨52,s,0,zT,[],[],a⟩ ([(4,s)]):=by
 have R:=And.intro (esc_v hs) (b6v hs 34 [34] (by simp));exact pxI
theorem px_name :PX ⟨54,s,0,zT,[],[],a⟩ ([(1,s)]):=by
 have R:=True.intro;exact pxI
theorem px_cons :PX ⟨61,s,0,zT,[],[],a⟩ ([(9,[99,111,110,115,117,109,101]),(1,s)]):=by
 have R:=True.intro;exact pxI
theorem px_lend (h:PX x w):PX ⟨62,[],0,zT,[],[x],a⟩ ((8,[38])::w):=by
 have h0:=h.1;have R:=h.2;exact pxI
theorem px_not (h:PX x w):PX ⟨65,[],0,zT,[],[x],a⟩ ((8,[33])::w):=by
 have h0:=h.1;have R:=h.2;exact pxI
theorem px_neg (h:PX x w):PX ⟨66,[],0,zT,[],[x],a⟩ ((8,[45])::w):=by
 have h0:=h.1;have R:=h.2;exact pxI
theorem px_bin (h:PX x w)(g:PX y v):PX ⟨64,s,0,zT,[],[x,y],a⟩ ((8,[40]) ::(w ++((8,s) ::(v++[(8,[41])])))):=by
 have h0:=h.1;have g0:=g.1;have R:=(And.intro h.2 g.2)
 exact pxI
theorem px_elist (h:V3 PX l vs):PX ⟨67,[],0,zT,[],l,a⟩ ((8,[91]) ::(jo vs++[(8,[93])])):=by
 have h0:=(c0T h).1;have R:=(c0T h).2;exact pxI
theorem pu_field (h:PX x w):PU ⟨55,s,0,zT,[],[x],a⟩ (rwd x w++[(8,[46]),(1,s)]):=by
 have h0:=(c0U h).1;have R:=(c0U h).2;exact puI
theorem pu_call (h:V3 PX l vs):PU ⟨56,s,0,zT,[],l,a⟩ ((1,s)::cw vs):=by
 have h0:=(a7l h).1;have R:=(a7l h).2;exact puI
theorem c7s (h:PX x w)(g:V3 PX l vs):PU ⟨57,s,0,zT,[],x::l,a⟩ (rwd x w ++((8,[46]) ::(1,s)::cw vs)):=by
 have h0:=(c0U h).1;have g0:=(a7l g).1;have R:=(And.intro (c0U h).2 (a7l g).2)
 exact puI
theorem pu_stat0 :PU ⟨58,s,0,t,[],[],a⟩ (W t++[(8,[46]),(1,s)]):=by
 have t0:=a4C t.sz t (Nat.le_refl _);have R:=True.intro;exact puI
theorem pu_stat1 (h:V3 PX l vs):PU ⟨58,s,1,t,[],l,a⟩ (W t ++((8,[46]) ::(1,s)::cw vs)):=by
 have t0:=a4C t.sz t (Nat.le_refl _);have h0:=(a7l h).1;have R:=(a7l h).2;exact puI
theorem pu_make (h:V3 PX l vs):PU ⟨59,[],0,t,[],l,a⟩ (W t++cw vs):=by
 have t0:=a4C t.sz t (Nat.le_refl _);have h0:=(a7l h).1;have R:=(a7l h).2;exact puI
theorem pu_apply (h:PX x w)(g:V3 PX l vs):PU ⟨60,[],0,zT,[],x::l,a⟩ ((8,[40]) ::(w ++((8,[41])::cw vs))):=by
 have h0:=h.1;have g0:=(a7l g).1;have R:=(And.intro h.2 (a7l g).2)
 exact puI
theorem b4h (ho:x.op=55∨x.op=56∨x.op=57∨x.op=58∨x.op=59∨x.op=60)(h:PU x w):PX x w:=by
 refine⟨h.1,fun n ws hn hw=>?_⟩;obtain⟨n,rfl⟩:∃m,n=m+1:=⟨n-1,by omega⟩
 have R:=fun ws g=>h.2 n ws (by omega) g;show O5 n (j6.fs n) _ ws=_;unfold O5;rcases ho with e|e|e|e|e|e<;>simp only[e]<;>exact prt
theorem ps_let0 (ht:t.kind≠0):PS ⟨21,s,1,t,[],[],a⟩ ((9,[118,97,114]) ::(1,s) ::(8,[58]) ::(W t++[(8,[59])])):=by
 have t0:=a4C t.sz t (Nat.le_refl _);have R:=And.intro ht (show ltB 0 ((([]:List Nod).length:Nat):Int)=false from a0C (by simp));exact psI
theorem ps_letu0 (h:PX x w):PS ⟨21,s,0,zT,[],[x],a⟩ ((9,[108,101,116]) ::(1,s) ::(8,[61]) ::(w++[(8,[59])])):=by
 have h0:=h.1;have R:=And.intro (show ltB 0 ((([x]:List Nod).length:Nat):Int)=true from X6 (by simp)) (And.intro (show idx' [x] 0=some x from a0k (l:=[x]) (i:=0) Nat.zero_lt_one) h.2);exact psI
theorem ps_lett0 (ht:t.kind≠0)(h:PX x w):PS ⟨21,s,0,t,[],[x],a⟩ ((9,[108,101,116]) ::(1,s) ::(8,[58]) ::(W t ++((8,[61]) ::(w++[(8,[59])])))):=by
 have t0:=a4C t.sz t (Nat.le_refl _);have h0:=h.1;have R:=And.intro ht (And.intro (show ltB 0 ((([x]:List Nod).length:Nat):Int)=true from X6 (by simp)) (And.intro (show idx' [x] 0=some x from a0k (l:=[x]) (i:=0) Nat.zero_lt_one) h.2));exact psI
theorem ps_letu1 (h:PX x w):PS ⟨21,s,1,zT,[],[x],a⟩ ((9,[118,97,114]) ::(1,s) ::(8,[61]) ::(w++[(8,[59])])):=by
 have h0:=h.1;have R:=And.intro (show ltB 0 ((([x]:List Nod).length:Nat):Int)=true from X6 (by simp)) (And.intro (show idx' [x] 0=some x from a0k (l:=[x]) (i:=0) Nat.zero_lt_one) h.2);exact psI
theorem ps_lett1 (ht:t.kind≠0)(h:PX x w):PS ⟨21,s,1,t,[],[x],a⟩ ((9,[118,97,114]) ::(1,s) ::(8,[58]) ::(W t ++((8,[61]) ::(w++[(8,[59])])))):=by
 have t0:=a4C t.sz t (Nat.le_refl _);have h0:=h.1;have R:=And.intro ht (And.intro (show ltB 0 ((([x]:List Nod).length:Nat):Int)=true from X6 (by simp)) (And.intro (show idx' [x] 0=some x from a0k (l:=[x]) (i:=0) Nat.zero_lt_one) h.2));exact psI
theorem c7r (h:PX x w)(g:PX y v):PS ⟨22,[],0,zT,[],[x,y],a⟩ (w ++((8,[61]) ::(v++[(8,[59])]))):=by
 have h0:=h.1;have g0:=g.1;have R:=(And.intro h.2 g.2)
 exact psI
theorem ps_sole (h:PX x w):PS ⟨23,[],0,zT,[],[x],a⟩ (w++[(8,[59])]):=by
 have h0:=h.1;have R:=h.2;exact psI
theorem ps_while (h:PX x w)(g:PB y v):PS ⟨25,[],0,zT,[],[x,y],a⟩ ((9,[119,104,105,108,101]) ::(w++v)):=by
 have h0:=h.1;have g0:=g.1;have R:=(And.intro h.2 g.2)
 exact psI
theorem ps_if2 (h:PX x w)(g:PB y v):PS ⟨24,[],0,zT,[],[x,y],a⟩ ((9,[105,102]) ::(w++v)):=by
 have h0:=h.1;have g0:=g.1;have R:=And.intro h.2 (And.intro g.2 (show ltB 2 ((([x,y]:List Nod).length:Nat):Int)=false from a0C (by simp)));exact psI
theorem ps_if3 (h:PX x w)(g:PB y v)(f:PB z u)(hz:z.op≠24):PS ⟨24,[],0,zT,[],[x,y,z],a⟩ ((9,[105,102]) ::(w ++(v ++((9,[101,108,115,101])::u)))):=by
 have h0:=h.1;have g0:=g.1;have f0:=f.1;have R:=And.intro h.2 (And.intro g.2 (And.intro (show ltB 2 ((([x,y,z]:List Nod).length:Nat):Int)=true from X6 (by simp)) (And.intro (show idx' [x,y,z] 2=some z from a0k (l:=[x,y,z]) (i:=2) (by simp)) (And.intro hz f.2))));exact psI
theorem ps_if4 (h:PX x w)(g:PB y v)(f:PS z u)(hz:z.op=24):PS ⟨24,[],0,zT,[],[x,y,z],a⟩ ((9,[105,102]) ::(w ++(v ++((9,[101,108,115,101])::u)))):=by
 have h0:=h.1;have g0:=g.1;have f0:=f.1;have R:=And.intro h.2 (And.intro g.2 (And.intro (show ltB 2 ((([x,y,z]:List Nod).length:Nat):Int)=true from X6 (by simp)) (And.intro (show idx' [x,y,z] 2=some z from a0k (l:=[x,y,z]) (i:=2) (by simp)) (And.intro hz f.2))));exact psI
theorem ps_ret0 :PS ⟨28,[],0,zT,[],[],a⟩ ([(9,[114,101,116,117,114,110]),(8,[59])]):=by
 have R:=show ltB 0 ((([]:List Nod).length:Nat):Int)=false from a0C (by simp);exact psI
theorem ps_ret1 (h:PX x w):PS ⟨28,[],0,zT,[],[x],a⟩ ((9,[114,101,116,117,114,110]) ::(w++[(8,[59])])):=by
 have h0:=h.1;have R:=And.intro (show ltB 0 ((([x]:List Nod).length:Nat):Int)=true from X6 (by simp)) (And.intro (show idx' [x] 0=some x from a0k (l:=[x]) (i:=0) Nat.zero_lt_one) h.2);exact psI
theorem ps_throw (h:PX x w):PS ⟨29,[],0,zT,[],[x],a⟩ ((9,[116,104,114,111,119]) ::(w++[(8,[59])])):=by
 have h0:=h.1;have R:=h.2;exact psI
theorem ps_do (h:PB x w)(g:PB y v):PS ⟨30,s,0,zT,[],[x,y],a⟩ ((9,[100,111]) ::(w ++((9,[99,97,116,99,104]) ::(1,s)::v))):=by
 have h0:=h.1;have g0:=g.1;have R:=(And.intro h.2 g.2)
 exact psI
theorem ps_defer (h:PB x w):PS ⟨31,[],0,zT,[],[x],a⟩ ((9,[100,101,102,101,114])::w):=by
 have h0:=h.1;have R:=h.2;exact psI
theorem pp_wild :PT ⟨40,[],0,zT,[],[],a⟩ ([(1,[95])]):=by
 have R:=True.intro;exact ptI
theorem pp_bind :PT ⟨41,s,0,zT,[],[],a⟩ ([(1,s)]):=by
 have R:=True.intro;exact ptI
theorem pp_tru :PT ⟨43,[],1,zT,[],[],a⟩ ([(9,[116,114,117,101])]):=by
 have R:=show ∀ws,U3 1 ws=j5 [[116,114,117,101]] ws from fun ws=>by unfold U3;rw[a0z rfl];simp only[NF];cases j5 [[116,114,117,101]] ws<;>rfl
 exact ptI
theorem pp_fal :PT ⟨43,[],0,zT,[],[],a⟩ ([(9,[102,97,108,115,101])]):=by
 have R:=show ∀ws,U3 0 ws=j5 [[102,97,108,115,101]] ws from fun ws=>by unfold U3;rw[a1t (by omega)];simp only[NF];cases j5 [[102,97,108,115,101]] ws<;>rfl
 exact ptI
theorem pp_text (hs:s.length<=20000):PT ⟨44,s,0,zT,[],[],a⟩ ([(4,s)]):=by
 have R:=And.intro (esc_v hs) (b6v hs 34 [34] (by simp));exact ptI
variable {a:Int} {vs:List (List WK)} {l:List Nod} {ws:List Str} {s:Str} {t:Typ}
theorem c6T (r:Str)(d:UInt8)(a:Nat):a1h (r++[d]) a=a1h r a*10+(d.toNat-48):=by simp[a1h,List.foldl_append]
theorem c5A:∀(k:Nat) (s:Str),s.length=k->s ≠ [] ->(∀b∈s,48<=b.toNat/\b.toNat<=57) ->(1<s.length ->(s.headD 0).toNat≠48)->Lib.decDigits (a1h s 0)=s/\((s.headD 0).toNat≠48->1<=a1h s 0)
 | 0,s,h,h0,_,_=>absurd (List.length_eq_zero_iff.1 h) h0
 | k+1,s,h,h0,hd,hz=>by
  rcases List.eq_nil_or_concat s with e |⟨r,d,e⟩
  ·exact absurd e h0
  ·rw[List.concat_eq_append]at e;subst e;have hd1:=hd d (by simp);have ed:UInt8.ofNat (48+(d.toNat-48))=d:=by
    rw[show 48+(d.toNat-48)=d.toNat by omega];exact UInt8.ofNat_toNat
   rw[c6T];cases r with
   | nil =>
    have e0:a1h [] 0*10+(d.toNat-48)=d.toNat-48:=by simp[a1h]
    rw[e0];refine⟨by rw[Lib.decDigits,dif_pos (by omega),ed];rfl,fun h=>?_⟩;have h:d.toNat≠48:=h;omega
   | cons b r =>
    have hz:=hz (by simp);have hz:b.toNat≠48:=hz;obtain⟨i1,i2⟩:=c5A k (b::r) (by simpa using h) (by simp) (fun c hc=>hd c (by simp at hc ⊢;rcases hc with hc|hc;exact .inl hc;exact .inr (.inl hc))) (fun _=>hz);have i2:=i2 hz;rw[Lib.decDigits,dif_neg (by omega),show(a1h (b::r) 0*10+(d.toNat-48))/10=a1h (b::r) 0 by omega,show(a1h (b::r) 0*10+(d.toNat-48))%10=d.toNat-48 by omega,i1,ed];exact⟨rfl,fun _=>by omega⟩
structure NumW (s:Str):Prop where
 dec:Lib.decDigits (a1h s 0)=s
 max:a1h s 0<=9223372036854775807
theorem numw_of (h:Sc.IntW s):NumW s:=by
 obtain⟨h1,h2,c,h3⟩:=h;have hb:=Sc.b4E ⟨h1,h2,c,h3⟩;refine⟨(c5A s.length s rfl h1 (fun b hb=>by
  have:=h2 b hb;simp only[Sc.U5,decide_eq_true_eq]at this;exact⟨this.1,this.2⟩) (fun hl e=>?_)).1,?_⟩
 ·unfold Sc.a4y at h3;simp only[Bool.or_eq_false_iff]at h3;have h4:=h3.1.1.1;rw[X6 (by omega),Bool.true_and]at h4;have h5:(s.getD 0 0).toNat=48:=by
   cases s with
   | nil=>exact absurd rfl h1
   | cons b r=>exact e
  rw[a0z (by rw[h5];rfl)]at h4;cases h4
 ·unfold b4x at hb;simp only[Bool.and_eq_true]at hb;have:=hb.2.2.2;exact Nat.le_of_ble_eq_true this
theorem num_v (h:NumW s)(hw:ws.length<=500001):a0c ((a1h s 0:Nat):Int) ws=some (ws++[s]):=by
 have hm:=h.max;have e1:b5M ((a1h s 0:Nat):Int)=some s:=by
  unfold b5M rngB;rw[decide_eq_true (by omega),decide_eq_true (by omega)];simp only[Bool.and_self];rw[Lib.itoa_nonneg,h.dec]
 unfold a0c;rw[e1,a0C (by omega)];simp only[NF];rw[b2T (by simp only[List.length_singleton];omega)];rfl
theorem num_neg (h:NumW s)(h1:1<=a1h s 0)(hw:ws.length<=500001):a0c (w64 (0-((a1h s 0:Nat):Int))) ws=some (ws++[[45],s]):=by
 have hm:=h.max;have e0:w64 (0-((a1h s 0:Nat):Int)) = -((a1h s 0:Nat):Int):=by rw[a4m (by omega) (by omega)];omega
 have e1:b5M (-((a1h s 0:Nat):Int))=some (45::s):=by
  unfold b5M rngB;rw[decide_eq_true (by omega),decide_eq_true (by omega)];simp only[Bool.and_self];rw[Lib.itoa_neg _ h1,h.dec]
 have e2:subS (45::s) 1 (((45::s:Str).length:Nat):Int)=some s:=by
  have h:inI ((1:Nat):Int) (((45::s:Str).length:Nat):Int) (45::s:Str).length=true:=by simp[inI];omega
  simp only[subS];rw[show inI 1 (((45::s:Str).length:Nat):Int) (45::s:Str).length=true from h];simp
 rw[e0];unfold a0c;rw[e1,X6 (by omega)];simp only[NF];rw[b2T (by simp only[List.length_singleton];omega)];simp only[NF,e2];rw[b2T (by simp only[List.length_append,List.length_singleton];omega)];simp
theorem num_zero (h:NumW s)(h1:a1h s 0=0)(hw:ws.length<=500001):a0c (w64 (0-((a1h s 0:Nat):Int))) ws=some (ws++[s]):=by
 have e:w64 (0-((a1h s 0:Nat):Int)) =((a1h s 0:Nat):Int):=by rw[h1];decide
 rw[e];exact num_v h hw
theorem px_int (h:NumW s):PX ⟨50,[],((a1h s 0:Nat):Int),zT,[],[],a⟩ [(3,s)]:=by
 refine⟨by simp only[SZ,WL];omega,fun n ws hn hw=>?_⟩;simp only[SZ]at hn hw;obtain⟨n,rfl⟩:∃m,n=m+1:=⟨n-1,by omega⟩
 have R:=fun(ws:List Str) (hw:ws.length<=500001)=>num_v h hw;show O5 n (j6.fs n) _ ws=_;unfold O5;exact prt
theorem pp_int (h:NumW s):PT ⟨42,[],((a1h s 0:Nat):Int),zT,[],[],a⟩ [(3,s)]:=by
 refine⟨by simp only[SZ,WL];omega,fun n ws hn hw=>?_⟩;simp only[SZ]at hn hw;obtain⟨n,rfl⟩:∃m,n=m+1:=⟨n-1,by omega⟩
 have R:=fun(ws:List Str) (hw:ws.length<=500001)=>num_v h hw;show I9 n (q9.fs n) _ ws=_;unfold I9;exact prt
theorem pp_neg (h:NumW s):PT ⟨42,[],w64 (0-((a1h s 0:Nat):Int)),zT,[],[],a⟩ (cond (decide (a1h s 0=0)) [(3,s)] [(8,[45]),(3,s)]):=by
 rcases Nat.eq_zero_or_pos (a1h s 0)with h0|h0
 ·rw[decide_eq_true h0];refine⟨by simp only[SZ,WL,NF];omega,fun n ws hn hw=>?_⟩;simp only[SZ]at hn hw;obtain⟨n,rfl⟩:∃m,n=m+1:=⟨n-1,by omega⟩
  have R:=fun(ws:List Str) (hw:ws.length<=500001)=>num_zero h h0 hw;show I9 n (q9.fs n) _ ws=_;unfold I9;exact prt
 ·rw[decide_eq_false (by omega)];refine⟨by simp only[SZ,WL,NF];omega,fun n ws hn hw=>?_⟩;simp only[SZ]at hn hw;obtain⟨n,rfl⟩:∃m,n=m+1:=⟨n-1,by omega⟩
  have R:=fun(ws:List Str) (hw:ws.length<=500001)=>num_neg h h0 hw;show I9 n (q9.fs n) _ ws=_;unfold I9;exact prt
theorem c6n (h:V3 PT l vs):(jo vs).length<=8*szN l /\ ∀n ws,20*szN l+30<=n->ws.length+8*szN l<=500000->szN l<=100000000 ->(q9.fs n).Y8 l ws=some (ws++sp (jo vs)):=by
 have hl:=a00 l;refine⟨(b4F (R:=PT) (c:=fun x=>8*x.sz) (S:=fun l=>8*szN l) rfl c8 (fun x w h=>h.1) h).1,fun n ws hn hw hz=>?_⟩;obtain⟨n,rfl⟩:∃m,n=m+1:=⟨n-1,by omega⟩
 exact lp_j (R:=PT) (c:=fun x=>8*x.sz) (S:=fun l=>8*szN l) c8 (fun x w h=>h.1) (L:=fun m i ws=>a10 n (q9.fs n) l m i ws) (by omega) (fun m i x w ws hx hR e1 e2 e3 e4 hb=>by
  have:=a1Q hx;have R:=hR.2 n;rw[a10.eq_2,e1,e2];rcases e4 with⟨rfl,e4⟩ |⟨hi,e4⟩
  ·have R:=And.intro (fun ws h=>R ws (by omega) h) (And.intro e4 e3);rw[if_pos rfl];exact prt
  ·have R:=And.intro (fun ws h=>R ws (by omega) h) (And.intro e4 e3);rw[if_neg (by omega)];exact prt) (fun m ws e=>by
  rw[a10.eq_2,e];rfl) h (by omega) hw
theorem pp_case0:PT ⟨45,s,0,zT,[],[],a⟩ [(8,[46]),(1,s)]:=by
 refine⟨by simp only[SZ,WL];omega,fun n ws hn hw=>?_⟩;simp only[SZ]at hn hw;obtain⟨n,rfl⟩:∃m,n=m+1:=⟨n-1,by omega⟩
 have R:=show ltB 0 ((([]:List Nod).length:Nat):Int)=false from a0C (by simp);show I9 n (q9.fs n) _ ws=_;unfold I9;exact prt
theorem pp_case1 (hl:l ≠ [])(h:V3 PT l vs):PT ⟨45,s,0,zT,[],l,a⟩ ((8,[46]) ::(1,s)::cw vs):=by
 have h0:=(c6n h).1;refine⟨by unfold cw;simp only[SZ,WL]at *;omega,fun n ws hn hw=>?_⟩;simp only[SZ]at hn hw;obtain⟨n,rfl⟩:∃m,n=m+1:=⟨n-1,by omega⟩
 have R:=And.intro (show ltB 0 ((l.length:Nat):Int)=true from X6 (by have:=List.length_pos_iff.2 hl;omega)) (fun ws q_=>(c6n h).2 n ws (by omega) q_ (by omega));show I9 n (q9.fs n) _ ws=_;unfold I9 cw;exact prt
theorem pb_block (h:V3 PS l vs):PB ⟨20,[],0,zT,[],l,a⟩ ((8,[123]) ::(vs.flatten++[(8,[125])])):=by
 have hl:=a00 l;have h0:=(b4F (R:=PS) (c:=fun x=>8*x.sz) (S:=fun l=>8*szN l) rfl c8 (fun x w h=>h.1) h).2;refine⟨by simp only[SZ,WL]at *;omega,fun n ws hn hw=>?_⟩;simp only[SZ]at hn hw;obtain⟨n,rfl⟩:∃m,n=m+1:=⟨n-1,by omega⟩
 have R:=fun(ws:List Str) (hw:ws.length+8*szN l<=500000)=>lp_f (R:=PS) (c:=fun x=>8*x.sz) (S:=fun l=>8*szN l) c8 (fun x w h=>h.1) (L:=fun m i ws=>a14 n (j6.fs n) ⟨20,[],0,zT,[],l,a⟩ m i ws) (fin:=some) (by omega) (fun m i x w ws hx hR e1 e2 e3 hb=>by
  have:=a1Q hx;have R:=hR.2 n;have R:=And.intro (fun ws h=>R ws (by omega) h) e3;rw[a14.eq_2,e1,e2];exact prt) (fun m ws e=>by
  rw[a14.eq_2,e];rfl) h (n:=n) (by omega) hw
 show a2j n (j6.fs n) _ ws=_;unfold a2j;exact prt
def PA (x:Nod)(w:List WK):Prop:=w.length+1<=8*x.sz /\ ∃p b u v a,x =⟨27,[],0,zT,[],[p,b],a⟩/\PT p u/\PB b v/\w =(9,[99,97,115,101]) ::(u++v)
theorem pa_arm {p b:Nod}{u v:List WK}(h:PT p u)(g:PB b v):PA ⟨27,[],0,zT,[],[p,b],a⟩ ((9,[99,97,115,101]) ::(u++v)):=by
 have h0:=h.1;have g0:=g.1;exact⟨by simp only[SZ,WL]at *;omega,p,b,u,v,a,rfl,h,g,rfl⟩
theorem ps_match {x:Nod}{w:List WK}(h:PX x w)(g:V3 PA l vs):PS ⟨26,[],0,zT,[],x::l,a⟩ ((9,[109,97,116,99,104]) ::(w ++((8,[123]) ::(vs.flatten++[(8,[125])])))):=by
 have hl:=a00 l;have h0:=h.1;have g0:=(b4F (R:=PA) (c:=fun x=>8*x.sz) (S:=fun l=>8*szN l) rfl c8 (fun x w h=>h.1) g).2;refine⟨by simp only[SZ,WL]at *;omega,fun n ws hn hw=>?_⟩;simp only[SZ]at hn hw;obtain⟨n,rfl⟩:∃m,n=m+1:=⟨n-1,by omega⟩
 have R:=And.intro (fun ws q_=>h.2 n ws (by omega) q_) (fun(ws:List Str) (hw:ws.length+8*szN l<=500000)=>lp_f (R:=PA) (c:=fun x=>8*x.sz) (S:=fun l=>8*szN l) c8 (fun x w h=>h.1) (L:=fun m i ws=>a0U n (j6.fs n) l m i ws) (fin:=some) (by omega) (fun m i x w ws hx hR e1 e2 e3 hb=>by
  have hz:=a1Q hx;obtain⟨_,p,b,u,v,a,rfl,k1,k2,rfl⟩:=hR;have l1:=k1.1;simp only[SZ]at hz hb;have R:=And.intro (fun ws q_=>show O6 n p ws=_ from k1.2 n ws (by omega) q_) (And.intro (fun ws q_=>k2.2 n ws (by omega) q_) e3);rw[a0U.eq_2,e1,e2];exact prt) (fun m ws e=>by
  rw[a0U.eq_2,e];rfl) g (n:=n) (by omega) hw)
 show Z6 n (j6.fs n) _ ws=_;unfold Z6;exact prt
theorem c7l:PM ⟨10,s,0,t,[],[],a⟩ ((1,s) ::(8,[58])::W t):=by
 have t0:=a4C t.sz t (Nat.le_refl _);refine⟨by simp only[SZ,WL]at *;omega,fun n ws hn hw=>?_⟩;simp only[SZ]at hn hw;have R:=True.intro;unfold a0x;exact prt
theorem c7m:PM ⟨10,s,1,t,[],[],a⟩ ((9,[105,110,111,117,116]) ::(1,s) ::(8,[58])::W t):=by
 have t0:=a4C t.sz t (Nat.le_refl _);refine⟨by simp only[SZ,WL]at *;omega,fun n ws hn hw=>?_⟩;simp only[SZ]at hn hw;have R:=True.intro;unfold a0x;exact prt
theorem c7n:PM ⟨10,s,2,t,[],[],a⟩ ((9,[99,111,110,115,117,109,101]) ::(1,s) ::(8,[58])::W t):=by
 have t0:=a4C t.sz t (Nat.le_refl _);refine⟨by simp only[SZ,WL]at *;omega,fun n ws hn hw=>?_⟩;simp only[SZ]at hn hw;have R:=True.intro;unfold a0x;exact prt
theorem b3o (h:V3 PM l vs):(cw vs).length<=8*szN l+2 /\ ∀n ws,20*szN l+40<=n->ws.length+8*szN l+4<=500000->szN l<=100000000->a1T n l ws=some (ws++sp (cw vs)):=by
 have hl:=a00 l;have h1:=(b4F (R:=PM) (c:=fun x=>8*x.sz) (S:=fun l=>8*szN l) rfl c8 (fun x w h=>h.1) h).1;refine⟨by unfold cw;simp only[WL];omega,fun n ws hn hw hz=>?_⟩;have R:=fun(ws:List Str) (hw:ws.length+8*szN l<=500000)=>lp_j (R:=PM) (c:=fun x=>8*x.sz) (S:=fun l=>8*szN l) c8 (fun x w h=>h.1) (L:=fun m i ws=>a1Y n l m i ws) (by omega) (fun m i x w ws hx hR e1 e2 e3 e4 hb=>by
  have:=a1Q hx;have R:=hR.2 n;rw[a1Y.eq_2,e1,e2];rcases e4 with⟨rfl,e4⟩ |⟨hi,e4⟩
  ·have R:=And.intro (fun ws h=>R ws (by omega) h) (And.intro e4 e3);rw[if_pos rfl];exact prt
  ·have R:=And.intro (fun ws h=>R ws (by omega) h) (And.intro e4 e3);rw[if_neg (by omega)];exact prt) (fun m ws e=>by
  rw[a1Y.eq_2,e];rfl) h (n:=n) (by omega) hw
 unfold a1T a4f cw;exact prt
def rsw (t:Typ):List WK:=cond (eqB t.kind 4) [] ((8,[45,62])::W t)
theorem rsw_v:(rsw t).length<=8*t.sz /\ ∀(n:Nat) (ws:List Str),3*t.sz+4<=n->ws.length+8*t.sz+1<=500000->a1U n t ws=some (ws++sp (rsw t)):=by
 have t0:=a4C t.sz t (Nat.le_refl _);unfold rsw a1U;cases h:eqB t.kind 4
 ·refine⟨by simp only[NF,WL];omega,fun n ws hn hw=>?_⟩;have R:=True.intro;exact prt
 ·refine⟨by simp only[NF,WL];omega,fun n ws hn hw=>?_⟩;have R:=True.intro;exact prt
theorem px_clos {ps ss:List Nod}{us:List (List WK)}{b:Int}(hp:∀x∈ps,x.op=10)(h:V3 PM ps us)(g:V3 PS ss vs):PX ⟨63,[],0,t,[],ps++[⟨20,[],0,zT,[],ss,b⟩],a⟩ ((8,[123]) ::(cw us ++(rsw t ++((9,[105,110]) ::(vs.flatten++[(8,[125])]))))):=by
 have hlp:=a00 ps;have hls:=a00 ss;have h0:=(b3o h).1;have r0:=(rsw_v (t:=t)).1;have g0:=(b4F (R:=PS) (c:=fun x=>8*x.sz) (S:=fun l=>8*szN l) rfl c8 (fun x w h=>h.1) g).2;refine⟨by simp only[SZ,WL]at *;omega,fun n ws hn hw=>?_⟩;simp only[SZ]at hn hw;obtain⟨n,rfl⟩:∃m,n=m+2:=⟨n-2,by omega⟩
 obtain⟨q,rfl⟩:∃q,n=q+2:=⟨n-2,by omega⟩
 have hlen:(ps++[(⟨20,[],0,zT,[],ss,b⟩:Nod)]).length=ps.length+1:=by simp
 have f1:(ps++[(⟨20,[],0,zT,[],ss,b⟩:Nod)]).filter (fun y=>eqB y.op 10)=ps:=by
  rw[List.filter_append,List.filter_eq_self.2 fun x hx=>a0z (hp x hx),List.filter_cons,if_neg (by rw[a1t (by simp)];simp)];simp
 have f2:(ps++[(⟨20,[],0,zT,[],ss,b⟩:Nod)]).filter (fun y=>eqB y.op 20)=[⟨20,[],0,zT,[],ss,b⟩]:=by
  rw[List.filter_append,List.filter_eq_nil_iff.2 fun x hx=>by rw[a1t (by rw[hp x hx];decide)];simp,List.filter_cons,if_pos (a0z rfl)];simp
 have o1:=ofs (n:=q+2) (x:=⟨63,[],0,t,[],ps++[⟨20,[],0,zT,[],ss,b⟩],a⟩) (o:=10) (by simp only[hlen];omega) (by simp only[hlen];omega);have o2:=ofs (n:=q+2) (x:=⟨63,[],0,t,[],ps++[⟨20,[],0,zT,[],ss,b⟩],a⟩) (o:=20) (by simp only[hlen];omega) (by simp only[hlen];omega);simp only[f1,f2]at o1 o2;have L9:=fun(ws:List Str) (hw:ws.length+8*szN ss<=500000)=>lp_f (R:=PS) (c:=fun x=>8*x.sz) (S:=fun l=>8*szN l) c8 (fun x w h=>h.1) (L:=fun m i ws=>a1z (q+2) (j6.fs (q+2)) ⟨20,[],0,zT,[],ss,b⟩ m 0 i ws) (fin:=fun ws=>some (0,ws)) (by omega) (fun m i x w ws hx hR e1 e2 e3 hb=>by
  have:=a1Q hx;have R:=hR.2 (q+2);have R:=And.intro (fun ws h=>R ws (by omega) h) e3;rw[a1z.eq_2,e1,e2];exact prt) (fun m ws e=>by
  rw[a1z.eq_2,e];rfl) g (n:=q+2) (by omega) hw
 have L6:∀(ws:List Str),ws.length+8*szN ss<=500000->a1y (q+2) (j6.fs (q+2)) [⟨20,[],0,zT,[],ss,b⟩] (q+2) 0 ws=some (ws++sp vs.flatten):=fun ws hw=>by
  rw[a1y.eq_2,show ltB 0 ((([(⟨20,[],0,zT,[],ss,b⟩:Nod)]:List Nod).length:Nat):Int)=true from X6 (by simp),show idx' [(⟨20,[],0,zT,[],ss,b⟩:Nod)] 0=some ⟨20,[],0,zT,[],ss,b⟩from a0k (l:=[_]) (i:=0) Nat.zero_lt_one];simp only[NF,L9 ws hw];rw[show w64 (0+1)=1 by decide,a1y.eq_2,show ltB 1 ((([(⟨20,[],0,zT,[],ss,b⟩:Nod)]:List Nod).length:Nat):Int)=false from a0C (by simp)];rfl
 have R:=And.intro o1 (And.intro o2 (And.intro (fun ws q_=>(b3o h).2 (q+2) ws (by omega) q_ (by omega)) (And.intro (fun ws q_=>(rsw_v (t:=t)).2 (q+2) ws (by omega) q_) L6)));have hc:a1P (q+2) (j6.fs (q+2)) ⟨63,[],0,t,[],ps++[⟨20,[],0,zT,[],ss,b⟩],a⟩ ws=some (ws++sp ((8,[123]) ::(cw us ++(rsw t ++((9,[105,110]) ::(vs.flatten++[(8,[125])])))))):=by
  unfold a1P;exact prt
 show O5 (q+3) (j6.fs (q+3)) _ ws=_;have R:(j6.fs (q+3)).V6 ⟨63,[],0,t,[],ps++[⟨20,[],0,zT,[],ss,b⟩],a⟩ ws=_:=hc;unfold O5;simp only[a9m,Int.reduceEq,decide_true,decide_false,NF];rw[R];rfl
variable {vs:List (List WK×Str)} {ps:List (Nod×Nod)}
def iw:List (List WK×Str)->List WK | []=>[] | [p]=>p.1++[(7,p.2)]|p::q::r=>p.1 ++((6,p.2)::iw (q::r))
def PI (p:Nod×Nod)(v:List WK×Str):Prop:=PX p.1 v.1/\(∃a,p.2 =⟨52,v.2,0,zT,[],[],a⟩)/\v.2.length<=20000
theorem c0n:∀l:List (Nod×Nod),(fl l).length=2*l.length
 | []=>rfl
 | p::r=>by rw[fl,List.length_cons,List.length_cons,c0n r,List.length_cons];omega
theorem iw_len (h:V3 PI ps vs):(iw vs).length<=8*szN (fl ps):=by
 induction h with
 | nil=>simp[iw]
 | @cons p v ps vs h1 h2 ih =>
  obtain⟨⟨k1,_⟩,⟨a,k2⟩,_⟩:=h1;have h3:p.2.sz=2:=by rw[k2];rfl
  rw[fl,a4V,a4V,h3];cases vs with
  | nil=>simp only[iw,WL];omega
  | cons q r=>simp only[iw,WL];omega
theorem tmod_n (k:Nat):Int.tmod (k:Int) 2 =((k%2:Nat):Int):=rfl
theorem c68 {n:Nat}{x:Nod}(hz:szN x.l<=1000000)(hn:20*szN x.l+20<=n):∀{ps:List (Nod×Nod)} {vs:List (List WK×Str)},V3 PI ps vs -> ∀(pre:List Nod) (m:Nat) (ws:List Str),x.l=pre++fl ps->pre.length%2=1->2*ps.length<m->ws.length+8*szN (fl ps)<=500000->U9 n (j6.fs n) x m pre.length ws=some (ws++sp (iw vs)):=by
 have hlx:=a00 x.l;intro ps vs h;induction h with
 | nil =>
  intro pre m ws e h1 h2 h3;obtain⟨m,rfl⟩:∃q,m=q+1:=⟨m-1,by simp only[List.length_nil]at h2;omega⟩
  rw[U9.eq_2,a0C (by rw[e];simp[fl])];simp[NF,iw,sp]
 | @cons p v ps vs g1 g2 ih =>
  intro pre m ws e h1 h2 h3;obtain⟨k1,⟨a,k2⟩,k3⟩:=g1;obtain⟨p1,p2⟩:=p;obtain⟨w,s⟩:=v;simp only at k1 k2 k3;subst k2;simp only[List.length_cons]at h2;obtain⟨m,rfl⟩:∃q,m=q+2:=⟨m-2,by omega⟩
  have hL:x.l.length=pre.length+2+(fl ps).length:=by rw[e];simp[fl];omega
  have hf:=c0n ps;have hm:p1.sz<=szN x.l:=a1Q (by rw[e];simp[fl]);have e0:idx' x.l (pre.length:Int)=some p1:=by rw[a0k (by omega)];simp only[e];simp[fl]
  have e1:idx' x.l ((pre.length+1:Nat):Int)=some ⟨52,s,0,zT,[],[],a⟩:=by rw[a0k (by omega)];simp only[e];simp[fl]
  rw[fl,a4V,a4V]at h3;have h3:ws.length+8*(p1.sz+((⟨52,s,0,zT,[],[],a⟩:Nod).sz+szN (fl ps)))<=500000:=h3;have h4:(⟨52,s,0,zT,[],[],a⟩:Nod).sz=2:=rfl;rw[h4]at h3;have k5:=k1.1;have hq:=b6v k3;have ih:=ih (pre++[p1,⟨52,s,0,zT,[],[],a⟩]) m (ws++sp w++[if ps=[]then 41 ::(Rp.esc s++[34])else 41 ::(Rp.esc s++[92,40])]) (by rw[e];simp[fl]) (by simp only[List.length_append,List.length_cons,List.length_nil];omega) (by omega) (by
   simp only[WL];omega)
  have e2:((pre++[p1,(⟨52,s,0,zT,[],[],a⟩:Nod)]).length:Int) =((pre.length+2:Nat):Int):=by simp
  rw[e2]at ih;have z2:(!eqB 2 0)=true:=by rw[a1t (by decide)];rfl
  have t1:eqB (Int.tmod (pre.length:Int) 2) 1=true:=by rw[tmod_n,h1];exact a0z rfl
  have t2:eqB (Int.tmod ((pre.length+1:Nat):Int) 2) 1=false:=by rw[tmod_n,show(pre.length+1)%2=0 by omega];exact a1t (by decide)
  have t3:eqB ((pre.length+1:Nat):Int) 0=false:=a1t (by omega);have t5:w64 ((x.l.length:Int)-1) =((x.l.length-1:Nat):Int):=by rw[a4m (by omega) (by omega)];omega
  have R:=k1.2 n ws (by omega) (by omega);rw[U9.eq_2,X6 (by omega),e0];simp only[NF,z2,gdO,t1,R,H6 (show pre.length<=1000000000000 by omega)];rw[U9.eq_2,X6 (by omega),e1];simp only[NF,z2,gdO,t2,t3,t5,esc_v k3,H6 (show pre.length+1<=1000000000000 by omega)];cases g2 with
  | nil =>
   rw[if_pos rfl]at ih;have t4:eqB ((pre.length+1:Nat):Int) ((x.l.length-1:Nat):Int)=true:=a0z (by simp only[fl,List.length_nil]at hL;omega);simp only[t4,NF,(hq 41 [34] (by simp)).1,(hq 41 [34] (by simp)).2];rw[b2T (by simp only[WL];omega)];simp only[NF];rw[ih];simp[iw,sp,SPQ,SPL]
  | @cons q u qs us g3 g4 =>
   rw[if_neg (by simp)]at ih;have t4:eqB ((pre.length+1:Nat):Int) ((x.l.length-1:Nat):Int)=false:=a1t (by
    have:0<(fl (q::qs)).length:=by rw[hf];simp
    omega)
   simp only[t4,NF,(hq 41 [92,40] (by simp)).1,(hq 41 [92,40] (by simp)).2];rw[b2T (by simp only[WL];omega)];simp only[NF];rw[ih];simp[iw,sp,SPQ,SPL]
theorem c7u {s:Str}{a b:Int}(hs:s.length<=20000)(hp:ps ≠ [])(h:V3 PI ps vs):PX ⟨53,[],0,zT,[],⟨52,s,0,zT,[],[],b⟩::fl ps,a⟩ ((5,s)::iw vs):=by
 have hl:=iw_len h;have h2:(⟨52,s,0,zT,[],[],b⟩:Nod).sz=2:=rfl;have hf:=c0n ps;have hq:=b6v hs 34 [92,40] (by simp);have hpl:0<ps.length:=List.length_pos_iff.2 hp;refine⟨by simp only[SZ,WL]at *;omega,fun n ws hn hw=>?_⟩;rw[nsz,a4V,h2]at hn hw;simp only[SZ]at hn hw;obtain⟨n,rfl⟩:∃m,n=m+2:=⟨n-2,by omega⟩
 obtain⟨q,rfl⟩:∃q,n=q+1:=⟨n-1,by omega⟩
 have hx:szN (⟨52,s,0,zT,[],[],b⟩::fl ps)=2+szN (fl ps):=by rw[a4V,h2]
 have hfl:=a00 (fl ps);have ih:=c68 (n:=q+1) (x:=⟨53,[],0,zT,[],⟨52,s,0,zT,[],[],b⟩::fl ps,a⟩) (by simp only[hx];omega) (by simp only[hx];omega) h [⟨52,s,0,zT,[],[],b⟩] q (ws++[34 ::(Rp.esc s++[92,40])]) rfl rfl (by omega) (by simp only[WL];omega);have R:(j6.fs (q+2)).X9 ⟨53,[],0,zT,[],⟨52,s,0,zT,[],[],b⟩::fl ps,a⟩ ws=some (ws++sp ((5,s)::iw vs)):=by
  show U9 (q+1) (j6.fs (q+1)) _ (q+1) 0 ws=_;rw[U9.eq_2,X6 (by simp only[List.length_cons];omega)];have e0:idx' (⟨52,s,0,zT,[],[],b⟩::fl ps) 0=some ⟨52,s,0,zT,[],[],b⟩:=a0k (l:=⟨52,s,0,zT,[],[],b⟩::fl ps) (i:=0) (Nat.succ_pos _);have z2:(!eqB 2 0)=true:=by rw[a1t (by decide)];rfl
  have t1:eqB (Int.tmod 0 2) 1=false:=a1t (by decide);have t0:eqB 0 0=true:=a0z rfl;simp only[NF,e0,z2,gdO,t1,t0,esc_v hs,hq.1,hq.2,show w64 (0+1)=1 by decide];rw[b2T (by simp only[WL];omega)];simp only[NF];have ih:U9 (q+1) (j6.fs (q+1)) _ q 1 _=_:=ih;rw[ih];simp[sp,SPQ,SPL]
 show O5 (q+2) (j6.fs (q+2)) _ ws=_;unfold O5;simp only[a9m,Int.reduceEq,decide_true,decide_false,NF];rw[R];rfl
end Go.Proofs.YtjhfloacokgdiaaGreatDoor
