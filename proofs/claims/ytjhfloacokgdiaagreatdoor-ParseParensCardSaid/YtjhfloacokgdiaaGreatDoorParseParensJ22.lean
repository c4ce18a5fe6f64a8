/- Texts of ParseParens, joined. -/
import Derived.Test.YtjhfloacokgdiaaGreatDoorParseParensJ21
set_option maxRecDepth 100000
set_option maxHeartbeats 20000000
set_option linter.unusedSimpArgs false
set_option linter.unusedVariables false
set_option linter.unusedSectionVars false
namespace Go.Proofs.YtjhfloacokgdiaaGreatDoor
open Go Go.Vm
theorem Typ.b6n (t:Typ):1<=t.sz:=by have:=t.a3w;omega
theorem c4h (t:Typ):szT [t]=t.sz:=by simp[szT]
def jo:List (List (Int×Str))->List (Int×Str)
 | []=>[]
 | [a]=>a
 | a::b::r=>a ++((8,[44])::jo (b::r))
def an (ws:List (List (Int×Str))):List (Int×Str):=match ws with
 | []=>[]
 | _::_=>(8,[60]) ::(jo ws++[(8,[62])])
def wk (k:Int)(s:Str)(ws:List (List (Int×Str))):List (Int×Str) :=
 if k=1 then [(2,[73,110,116])]else if k=2 then [(2,[66,111,111,108])]else if k=3 then [(2,[84,101,120,116])]else if k=4 then [(2,[85,110,105,116])]else
 if k=5 then(2,[65,114,114,97,121])::an ws else if k=11 then(2,[87,101,97,107])::an ws else if k=9 then [(9,[97,110,121]),(2,s)]else if k=8 then jo ws++[(8,[46]),(2,s)]else
 if k=10 then(8,[40]) ::(jo (ws.take (ws.length-1)) ++((8,[41]) ::(8,[45,62])::jo (ws.drop (ws.length-1))))else(2,s)::an ws
mutual
def W:Typ->List (Int×Str)
 |⟨k,s,_,a⟩=>wk k s (WW a)
def WW:List Typ->List (List (Int×Str))
 | []=>[]
 | t::r=>W t::WW r
end
theorem b4S (t:Typ):W t=wk t.kind t.name (WW t.args):=by cases t;rw[W]
theorem a4V:∀l:List Typ,WW l=l.map W
 | []=>by rw[WW];rfl
 | t::r=>by rw[WW,a4V r];rfl
def b6k (ws:List (List (Int×Str))):Nat:=(ws.map fun a=>a.length+1).sum
theorem b3M (a:List (Int×Str))(r:List (List (Int×Str))):b6k (a::r)=a.length+1+b6k r:=by simp[b6k]
theorem c2H (ws:List (List (Int×Str)))(i:Nat):b6k (ws.take i)+b6k (ws.drop i)=b6k ws:=by
 unfold b6k
 rw[<-List.sum_append,<-List.map_append,List.take_append_drop]
theorem b0v:∀ws,(jo ws).length<=b6k ws
 | []=>by simp[jo]
 | [a]=>by simp only[jo,b3M];omega
 | a::b::r=>by
  have:=b0v (b::r)
  simp only[jo,List.length_append,List.length_cons]
  rw[b3M a];omega
theorem an_len (ws:List (List (Int×Str))):(an ws).length<=b6k ws+2:=by
 cases ws with
 | nil=>simp[an]
 | cons a r=>have:=b0v (a::r);simp only[an,List.length_cons,List.length_append,List.length_nil];omega
theorem sumW:∀a:List Typ,(∀x∈a,(W x).length+1<=6*x.sz)->b6k (WW a)<=6*szT a
 | [],_=>by rw[WW];simp[b6k]
 | x::r,h=>by
  have h1:=sumW r fun y hy=>h y (by simp[hy])
  have h2:=h x (by simp)
  rw[WW,b3M]
  simp only[szT];omega
theorem a6Y:∀(N:Nat) (t:Typ),t.sz<=N ->(W t).length+1<=6*t.sz
 | 0,t,h=>by have:=t.b6n;omega
 | N+1,t,h=>by
  have hs:=t.a3w
  have h1:=sumW t.args fun x hx=>a6Y N x (by have:=a3p hx;omega)
  have h2:=an_len (WW t.args)
  have h3:=b0v (WW t.args)
  have h4:=b0v ((WW t.args).take ((WW t.args).length-1))
  have h5:=b0v ((WW t.args).drop ((WW t.args).length-1))
  have h6:=c2H (WW t.args) ((WW t.args).length-1)
  rw[b4S]
  unfold wk
  repeat' split
  all_goals simp only[List.length_cons,List.length_append,List.length_nil]
  all_goals omega
def sn (p:List (Int×Str)):List Str:=p.map Prod.snd
theorem sn_app (a b:List (Int×Str)):sn (a++b)=sn a++sn b:=by simp[sn]
theorem b8N (a:Int×Str)(b:List (Int×Str)):sn (a::b)=a.2::sn b:=rfl
theorem a3z {l ws:List Str}(h:ws.length+l.length<=1000000):l6 l ws=some (ws++l):=by
 unfold l6
 rw[c08 (by omega)];rfl
theorem c3X {n:Nat}{Φ:q9}{l:List Typ}(hl:l.length<=100000):∀(rest pre:List Typ) (m:Nat) (ws:List Str),l=pre++rest->rest.length<m ->
  (∀x∈rest,∀us:List Str,us.length+8*x.sz<=500000->Φ.P9 x us=some (us++sn (W x)))->ws.length+8*szT rest+1<=500000 ->
  a1v n Φ l m pre.length ws=some (ws++sn (match rest with | []=>[]|_::_=>(if pre.length=0 then []else [(8,[44])])++jo (WW rest)))
 | rest,pre,0,ws,_,h,_,_=>absurd h (by omega)
 | [],pre,m+1,ws,e,_,_,_=>by
  rw[a1v,a1j (by rw[e,List.append_nil];omega),cond_false];simp[sn]
 | t::r,pre,m+1,ws,e,hm,hΦ,hb=>by
  have hln:l.length=pre.length+(r.length+1):=by rw[e];simp
  have hi:pre.length<l.length:=by omega
  have hx:idx' l (pre.length:Int)=some t:=by rw[a0S hi];subst e;simp
  have hW:=a6Y _ t (Nat.le_refl _)
  simp only[szT]at hb
  have hz:=t.b6n
  have hin:∀{ρ:Type} (k:List Str->Option ρ),Option.bind (α:=List Str) (cond (ltB 0 (pre.length:Int)) ((l6 ([[44]]:List Str) ws).bind fun words4=>some words4) (some ws)) k=k (ws++sn (if pre.length=0 then []else [(8,[44])])):=by
   intro ρ k
   by_cases h0:pre.length=0
   ·rw[a1j (by omega),if_pos h0];simp[sn]
   ·rw[a0v (by omega),if_neg h0,cond_true,a3z (by simp only[List.length_cons,List.length_nil];omega)];rfl
  rw[a1v,a0v (by omega),cond_true,hx,Option.bind_some,hin]
  have hl1:(ws++sn (if pre.length=0 then []else [(8,[44])])).length<=ws.length+1:=by split<;>simp[sn]
  rw[hΦ t (by simp) _ (by omega),Option.bind_some,F9 (by omega)]
  have ih:=c3X (n:=n) hl r (pre++[t]) m (ws++sn (if pre.length=0 then []else [(8,[44])])++sn (W t)) (by rw[e];simp) (by simp only[List.length_cons]at hm;omega) (fun x hx=>hΦ x (by simp[hx])) (by
   rw[List.length_append]
   have:(sn (W t)).length =(W t).length:=by simp[sn]
   omega)
  rw[List.length_append]at ih
  have e2:((pre.length+[t].length:Nat):Int) =((pre.length+1:Nat):Int):=rfl
  rw[e2]at ih
  rw[ih]
  congr 1
  cases r with
  | nil=>simp[sn,WW,jo]
  | cons u r=>simp[sn,WW,jo]
theorem pr:∀(N:Nat) (t:Typ) (n:Nat) (ws:List Str),t.sz<=N->3*t.sz+4<=n->ws.length+8*t.sz<=500000 ->(q9.fs n).P9 t ws=some (ws++sn (W t))
 | 0,t,n,ws,h,_,_=>by have:=t.b6n;omega
 | N+1,t,n,ws,h,hn,hb=>by
  have hs:=t.a3w
  have hsl:=a5T t.args
  obtain⟨q,rfl⟩:∃q,n=q+3:=⟨n-3,by omega⟩
  have hlist:∀(q':Nat) (a:List Typ) (us:List Str),q<=q' ->(∀x∈a,x∈t.args)->szT a<=szT t.args->us.length+8*szT a+1<=500000 ->(q9.fs (q'+1)).Y3 a us=some (us++sn (jo (WW a))):=by
   intro q' a us h1 h2 h3 h4
   have hal:=a5T a
   have g:=c3X (n:=q') (Φ:=q9.fs q') (l:=a) (by omega) a [] q' us rfl (by omega) (fun x hx vs hv=>pr N x q' vs (by have:=a3p (h2 x hx);omega) (by have:=a3p (h2 x hx);omega) hv) h4
   show a2y q' (q9.fs q') a us=_
   unfold a2y
   have g:a1v q' (q9.fs q') a q' 0 us=_:=g
   rw[g]
   cases a with
   | nil=>simp[WW,jo,sn]
   | cons x r=>rfl
  have hargs:∀us:List Str,us.length+8*szT t.args+2<=500000 ->(q9.fs (q+2)).X5 t.args us=some (us++sn (an (WW t.args))):=by
   intro us h4
   show a1R (q+1) (q9.fs (q+1)) t.args us=_
   unfold a1R
   have hjl:=b0v (WW t.args)
   have hsw:=sumW t.args fun x hx=>a6Y _ x (Nat.le_refl _)
   cases ha:t.args with
   | nil=>rw[a1j (by simp),cond_false];simp[WW,an,sn]
   | cons x r =>
    rw[<-ha]
    rw[a0v (by rw[ha];simp only[List.length_cons];omega),cond_true,a3z (by simp only[List.length_cons,List.length_nil];omega),Option.bind_some,
     hlist q t.args _ (Nat.le_refl _) (fun x hx=>hx) (Nat.le_refl _) (by simp only[List.length_append,List.length_cons,List.length_nil];omega),Option.bind_some,
     a3z (by simp only[List.length_append,List.length_cons,List.length_nil,sn,List.length_map];omega)]
    rw[ha]
    simp[WW,an,sn]
  have hjl:=b0v (WW t.args)
  have hsw:=sumW t.args fun x hx=>a6Y _ x (Nat.le_refl _)
  show a2g (q+2) (q9.fs (q+2)) t ws=_
  unfold a2g
  rw[b4S]
  unfold wk
  by_cases k1:t.kind=1
  ·rw[a0C k1,cond_true,if_pos k1,a3z (by simp only[List.length_cons,List.length_nil];omega)];rfl
  rw[a1G k1,cond_false,if_neg k1]
  by_cases k2:t.kind=2
  ·rw[a0C k2,cond_true,if_pos k2,a3z (by simp only[List.length_cons,List.length_nil];omega)];rfl
  rw[a1G k2,cond_false,if_neg k2]
  by_cases k3:t.kind=3
  ·rw[a0C k3,cond_true,if_pos k3,a3z (by simp only[List.length_cons,List.length_nil];omega)];rfl
  rw[a1G k3,cond_false,if_neg k3]
  by_cases k4:t.kind=4
  ·rw[a0C k4,cond_true,if_pos k4,a3z (by simp only[List.length_cons,List.length_nil];omega)];rfl
  rw[a1G k4,cond_false,if_neg k4]
  by_cases k5:t.kind=5
  ·rw[a0C k5,cond_true,if_pos k5,a3z (by simp only[List.length_cons,List.length_nil];omega),Option.bind_some,hargs _ (by simp only[List.length_append,List.length_cons,List.length_nil];omega),Option.bind_some,b8N,List.append_assoc];rfl
  rw[a1G k5,cond_false,if_neg k5]
  by_cases k11:t.kind=11
  ·rw[a0C k11,cond_true,if_pos k11,a3z (by simp only[List.length_cons,List.length_nil];omega),Option.bind_some,hargs _ (by simp only[List.length_append,List.length_cons,List.length_nil];omega),Option.bind_some,b8N,List.append_assoc];rfl
  rw[a1G k11,cond_false,if_neg k11]
  by_cases k9:t.kind=9
  ·rw[a0C k9,cond_true,if_pos k9,a3z (by simp only[List.length_cons,List.length_nil];omega)];rfl
  rw[a1G k9,cond_false,if_neg k9]
  by_cases k8:t.kind=8
  ·rw[a0C k8,cond_true,if_pos k8,hlist (q+1) t.args ws (by omega) (fun x hx=>hx) (Nat.le_refl _) (by omega),Option.bind_some,a3z (by simp only[List.length_append,List.length_cons,List.length_nil,sn,List.length_map];omega),Option.bind_some,sn_app,List.append_assoc];rfl
  rw[a1G k8,cond_false,if_neg k8]
  by_cases k10:t.kind=10
  ·have hmx:max (w64 ((t.args.length:Int)-1)) 0 =((t.args.length-1:Nat):Int):=by
    rw[a5v (by omega) (by omega),Int.max_def]
    split<;>omega
   have hwl:(WW t.args).length=t.args.length:=by rw[a4V,List.length_map]
   have ht1:∀x∈t.args.take (t.args.length-1),x∈t.args:=fun x hx=>List.mem_of_mem_take hx
   have ht2:∀x∈t.args.drop (t.args.length-1),x∈t.args:=fun x hx=>List.mem_of_mem_drop hx
   have hsz:szT (t.args.take (t.args.length-1))+szT (t.args.drop (t.args.length-1))=szT t.args:=by rw[<-a9y,List.take_append_drop]
   have hj1:=b0v (WW (t.args.take (t.args.length-1)))
   have hs1:=sumW (t.args.take (t.args.length-1)) fun x hx=>a6Y _ x (Nat.le_refl _)
   have s1:b0X t.args 0 ((t.args.length-1:Nat):Int)=some (t.args.take (t.args.length-1)):=by
    rw[show(0:Int) =((0:Nat):Int)from rfl,b3b (by omega) (by omega)];rfl
   have s2:b0X t.args ((t.args.length-1:Nat):Int) (t.args.length:Int)=some (t.args.drop (t.args.length-1)):=by
    rw[b3b (by omega) (Nat.le_refl _),List.take_length]
   rw[a0C k10,cond_true,if_pos k10,a3z (by simp only[List.length_cons,List.length_nil];omega),Option.bind_some,hmx,s1,Option.bind_some,
    hlist (q+1) _ _ (by omega) ht1 (by omega) (by simp only[List.length_append,List.length_cons,List.length_nil];omega),Option.bind_some,
    a3z (by simp only[List.length_append,List.length_cons,List.length_nil,sn,List.length_map];omega),Option.bind_some,s2,Option.bind_some,
    hlist (q+1) _ _ (by omega) ht2 (by omega) (by simp only[List.length_append,List.length_cons,List.length_nil,sn,List.length_map];omega),Option.bind_some]
   rw[hwl,a4V,a4V,a4V,List.map_take,List.map_drop]
   simp[sn]
  rw[a1G k10,cond_false,if_neg k10,a3z (by simp only[List.length_cons,List.length_nil];omega),Option.bind_some,hargs _ (by simp only[List.length_append,List.length_cons,List.length_nil];omega),Option.bind_some,b8N,List.append_assoc];rfl
abbrev WK:=Int×Str
def spl (p:WK):Str:=if p.1=4 then 34 ::(Rp.esc p.2++[34])else if p.1=5 then 34 ::(Rp.esc p.2++[92,40])else if p.1=6 then 41 ::(Rp.esc p.2++[92,40])else if p.1=7 then 41 ::(Rp.esc p.2++[34])else p.2
def sp (l:List WK):List Str:=l.map spl
theorem SPL:(∀s,spl (1,s)=s)/\(∀s,spl (2,s)=s)/\(∀s,spl (3,s)=s)/\(∀s,spl (8,s)=s)/\(∀s,spl (9,s)=s)/\sp []=[]/\(∀(a:WK) (b:List WK),sp (a::b)=spl a::sp b)/\(∀a b:List WK,sp (a++b)=sp a++sp b)/\(∀a:List WK,(sp a).length=a.length) :=
 ⟨fun _=>rfl,fun _=>rfl,fun _=>rfl,fun _=>rfl,fun _=>rfl,rfl,fun _ _=>rfl,fun _ _=>List.map_append,fun _=>List.length_map ..⟩
theorem SPQ:(∀s,spl (4,s)=34 ::(Rp.esc s++[34]))/\(∀s,spl (5,s)=34 ::(Rp.esc s++[92,40]))/\(∀s,spl (6,s)=41 ::(Rp.esc s++[92,40]))/\(∀s,spl (7,s)=41 ::(Rp.esc s++[34])):=⟨fun _=>rfl,fun _=>rfl,fun _=>rfl,fun _=>rfl⟩
theorem sp_sn:∀{l:List WK},(∀p∈l,p.1=2∨p.1=8∨p.1=9)->sp l=sn l
 | [],_=>rfl
 | p::r,h=>by
  obtain⟨k,s⟩:=p
  have h1:=h (k,s) (by simp)
  have h1:k=2∨k=8∨k=9:=h1
  rw[show sp ((k,s)::r)=spl (k,s)::sp r from rfl,sp_sn fun q hq=>h q (by simp[hq])]
  rcases h1 with rfl|rfl|rfl<;>rfl
theorem jo_all {P:WK->Prop}(hc:P (8,[44])):∀{l:List (List WK)},(∀a∈l,∀p∈a,P p) -> ∀p∈jo l,P p
 | [],_,p,hp=>by cases hp
 | [a],h,p,hp=>h a (by simp) p hp
 | a::b::r,h,p,hp=>by
  rw[jo]at hp
  rcases List.mem_append.1 hp with hp|hp
  ·exact h a (by simp) p hp
  ·rcases List.mem_cons.1 hp with rfl|hp
   ·exact hc
   ·exact jo_all hc (fun x hx=>h x (by simp at hx ⊢;exact .inr hx)) p hp
theorem c2Z:∀(n:Nat) (t:Typ),t.sz<=n -> ∀p∈W t,p.1=2∨p.1=8∨p.1=9
 | 0,t,h=>by have:=t.b6n;omega
 | n+1,t,h=>by
  have hs:=t.a3w
  have H:∀(l:List Typ),(∀x∈l,x∈t.args) -> ∀p∈jo (WW l),p.1=2∨p.1=8∨p.1=9:=fun l hl=>jo_all (.inr (.inl rfl)) fun a ha=>by
   rw[a4V]at ha
   obtain⟨x,hx,rfl⟩:=List.mem_map.1 ha
   have:=a3p (hl x hx)
   exact c2Z n x (by omega)
  have HA:∀p∈an (WW t.args),p.1=2∨p.1=8∨p.1=9:=fun p hp=>by
   have hj:=H t.args fun _ h=>h
   unfold an at hp
   split at hp
   ·cases hp
   ·
    rcases List.mem_cons.1 hp with rfl|hp
    ·exact .inr (.inl rfl)
    ·rcases List.mem_append.1 hp with hp|hp
     ·exact hj p hp
     ·rcases List.mem_singleton.1 hp with rfl
      exact .inr (.inl rfl)
  have ht:∀i,∀p∈jo ((WW t.args).take i),p.1=2∨p.1=8∨p.1=9:=fun i=>by
   rw[a4V,<-List.map_take,<-a4V]
   exact H _ fun x hx=>List.mem_of_mem_take hx
  have hd:∀i,∀p∈jo ((WW t.args).drop i),p.1=2∨p.1=8∨p.1=9:=fun i=>by
   rw[a4V,<-List.map_drop,<-a4V]
   exact H _ fun x hx=>List.mem_of_mem_drop hx
  have hj:=H t.args fun _ h=>h
  intro p hp
  rw[b4S]at hp
  unfold wk at hp
  have one:∀{k:Int} {s:Str},(k=2∨k=8∨k=9)->p =(k,s)->p.1=2∨p.1=8∨p.1=9:=fun h e=>by rw[e];exact h
  repeat' split at hp
  all_goals simp only[List.mem_cons,List.mem_append,List.not_mem_nil,or_false]at hp
  ·exact one (.inl rfl) hp
  ·exact one (.inl rfl) hp
  ·exact one (.inl rfl) hp
  ·exact one (.inl rfl) hp
  ·exact hp.elim (one (.inl rfl)) (HA p)
  ·exact hp.elim (one (.inl rfl)) (HA p)
  ·exact hp.elim (one (.inr (.inr rfl))) (one (.inl rfl))
  ·exact hp.elim (hj p) fun h=>h.elim (one (.inr (.inl rfl))) (one (.inl rfl))
  ·exact hp.elim (one (.inr (.inl rfl))) fun h=>h.elim (ht _ p) fun h=>h.elim (one (.inr (.inl rfl))) fun h=>h.elim (one (.inr (.inl rfl))) (hd _ p)
  ·exact hp.elim (one (.inl rfl)) (HA p)
theorem b5Z {l ws:List Str}(h:ws.length+l.length<=1000000):l6 l ws=some (ws++l):=a3z h
theorem typ_v {n:Nat}{t:Typ}{ws:List Str}(hn:3*t.sz+4<=n)(h:ws.length+8*t.sz<=500000):P9 n t ws=some (ws++sp (W t)):=by
 rw[sp_sn (c2Z t.sz t (Nat.le_refl _))]
 exact pr t.sz t n ws (Nat.le_refl _) hn h
inductive a1e {α β:Type}(R:α->β->Prop):List α->List β->Prop
 | nil:a1e R [] []
 | cons {a:α} {b:β} {l:List α} {m:List β}:R a b->a1e R l m->a1e R (a::l) (b::m)
theorem b7M {α β:Type}{R:α->β->Prop}:∀{l:List α},(∀x∈l,∃w,R x w) -> ∃ws,a1e R l ws
 | [],_=>⟨[],.nil⟩
 | x::r,h=>by
  obtain⟨w,h1⟩:=h x (by simp)
  obtain⟨ws,h2⟩:=b7M (l:=r) fun y hy=>h y (by simp[hy])
  exact⟨w::ws,.cons h1 h2⟩
theorem a1e.len {α β:Type}{R:α->β->Prop}{l:List α}{m:List β}(h:a1e R l m):m.length=l.length:=by
 induction h with
 | nil=>rfl
 | cons _ _ ih=>simp[ih]
theorem a1e.imp {α β:Type}{R S:α->β->Prop}{l:List α}{m:List β}(h:a1e R l m)(hi:∀a b,a∈l->R a b->S a b):a1e S l m:=by
 induction h with
 | nil=>exact .nil
 | cons h1 _ ih=>exact .cons (hi _ _ (by simp) h1) (ih fun a b ha=>hi a b (by simp[ha]))
theorem WL:(∀a b:List Str,(a++b).length=a.length+b.length)/\(∀a b:List WK,(a++b).length=a.length+b.length)/\(∀(a:WK) (b:List WK),(a::b).length=b.length+1)/\(∀(a:Str) (b:List Str),(a::b).length=b.length+1)/\([]:List WK).length=0/\([]:List Str).length=0/\(∀a:List WK,(sp a).length=a.length):=⟨fun _ _=>List.length_append ..,fun _ _=>List.length_append ..,fun _ _=>rfl,fun _ _=>rfl,rfl,rfl,SPL.2.2.2.2.2.2.2.2⟩
theorem lp_j {α:Type}{R:α->List WK->Prop}{c:α->Nat}{S:List α->Nat}(hS:∀x r,S (x::r)=c x+S r)(hc:∀x w,R x w->w.length+1<=c x){l:List α}{L:Nat->Int->List Str->Option (List Str)}(hL:l.length<=1000000000)
  (step:∀(m i:Nat) (x:α) (w:List WK) (ws:List Str),x∈l->R x w->ltB (i:Int) (l.length:Int)=true->idx' l (i:Int)=some x->w64 ((i:Int)+1) =((i+1:Nat):Int) ->(i=0/\ltB 0 (i:Int)=false∨0<i/\ltB 0 (i:Int)=true)->ws.length+c x<=500000->L (m+1) i ws=L m ((i+1:Nat):Int) (ws++sp ((if i=0 then []else [(8,[44])])++w)))
  (stop:∀(m:Nat) (ws:List Str),ltB (l.length:Int) (l.length:Int)=false->L (m+1) (l.length:Int) ws=some ws) :
  ∀{vs:List (List WK)},a1e R l vs -> ∀{n:Nat} {ws:List Str},l.length<n->ws.length+S l<=500000->L n 0 ws=some (ws++sp (jo vs)):=by
 have key:∀(rest pre:List α) (vs:List (List WK)) (m:Nat) (ws:List Str),l=pre++rest->a1e R rest vs->rest.length<m->ws.length+S rest<=500000->L m pre.length ws=some (ws++sp (match vs with | []=>[]|_::_=>(if pre.length=0 then []else [(8,[44])])++jo vs)):=by
  intro rest
  induction rest with
  | nil =>
   intro pre vs m ws e hA hm hw
   cases hA
   obtain⟨q,rfl⟩:∃q,m=q+1:=⟨m-1,by simp only[List.length_nil]at hm;omega⟩
   rw[List.append_nil]at e
   subst e
   rw[stop q ws (a1j (by omega))]
   simp[sp]
  | cons x r ih =>
   intro pre vs m ws e hA hm hw
   cases hA with
   | cons hR hA =>
    rename_i w us
    obtain⟨q,rfl⟩:∃q,m=q+1:=⟨m-1,by omega⟩
    have hln:l.length=pre.length+(r.length+1):=by rw[e];simp
    have hi:pre.length<l.length:=by omega
    have hx:idx' l (pre.length:Int)=some x:=by rw[a0S hi];subst e;simp
    have hwc:=hc x w hR
    rw[hS]at hw
    rw[step q pre.length x w ws (by rw[e];simp) hR (a0v (by omega)) hx (F9 (by omega)) (by
     rcases Nat.eq_zero_or_pos pre.length with h|h
     ·exact .inl ⟨h,a1j (by omega)⟩
     ·exact .inr ⟨h,a0v (by omega)⟩) (by omega)]
    have ih2:=ih (pre++[x]) us q (ws++sp ((if pre.length=0 then []else [(8,[44])])++w)) (by rw[e];simp) hA (by simp only[List.length_cons]at hm;omega) (by
     rw[List.length_append,SPL.2.2.2.2.2.2.2.2,List.length_append]
     split
     ·simp only[List.length_nil];omega
     ·simp only[List.length_cons,List.length_nil];omega)
    rw[List.length_append]at ih2
    have e2:((pre.length+[x].length:Nat):Int) =((pre.length+1:Nat):Int):=rfl
    rw[e2]at ih2
    rw[ih2]
    congr 1
    cases us with
    | nil=>simp[jo,sp]
    | cons u us=>simp[jo,sp]
 intro vs hA n ws hn hw
 have h:=key l [] vs n ws rfl hA hn hw
 have h:L n 0 ws=_:=h
 rw[h]
 cases vs with
 | nil=>rfl
 | cons v vs=>rfl
theorem lp_f {α:Type}{R:α->List WK->Prop}{c:α->Nat}{S:List α->Nat}(hS:∀x r,S (x::r)=c x+S r)(hc:∀x w,R x w->w.length+1<=c x){l:List α}{B:Type}{L:Nat->Int->List Str->Option B}{fin:List Str->Option B}(hL:l.length<=1000000000)
  (step:∀(m i:Nat) (x:α) (w:List WK) (ws:List Str),x∈l->R x w->ltB (i:Int) (l.length:Int)=true->idx' l (i:Int)=some x->w64 ((i:Int)+1) =((i+1:Nat):Int)->ws.length+c x<=500000->L (m+1) i ws=L m ((i+1:Nat):Int) (ws++sp w))
  (stop:∀(m:Nat) (ws:List Str),ltB (l.length:Int) (l.length:Int)=false->L (m+1) (l.length:Int) ws=fin ws) :
  ∀{vs:List (List WK)},a1e R l vs -> ∀{n:Nat} {ws:List Str},l.length<n->ws.length+S l<=500000->L n 0 ws=fin (ws++sp vs.flatten):=by
 have key:∀(rest pre:List α) (vs:List (List WK)) (m:Nat) (ws:List Str),l=pre++rest->a1e R rest vs->rest.length<m->ws.length+S rest<=500000->L m pre.length ws=fin (ws++sp vs.flatten):=by
  intro rest
  induction rest with
  | nil =>
   intro pre vs m ws e hA hm hw
   cases hA
   obtain⟨q,rfl⟩:∃q,m=q+1:=⟨m-1,by simp only[List.length_nil]at hm;omega⟩
   rw[List.append_nil]at e
   subst e
   rw[stop q ws (a1j (by omega))]
   simp[sp]
  | cons x r ih =>
   intro pre vs m ws e hA hm hw
   cases hA with
   | cons hR hA =>
    rename_i w us
    obtain⟨q,rfl⟩:∃q,m=q+1:=⟨m-1,by omega⟩
    have hln:l.length=pre.length+(r.length+1):=by rw[e];simp
    have hi:pre.length<l.length:=by omega
    have hx:idx' l (pre.length:Int)=some x:=by rw[a0S hi];subst e;simp
    have hwc:=hc x w hR
    rw[hS]at hw
    rw[step q pre.length x w ws (by rw[e];simp) hR (a0v (by omega)) hx (F9 (by omega)) (by omega)]
    have ih2:=ih (pre++[x]) us q (ws++sp w) (by rw[e];simp) hA (by simp only[List.length_cons]at hm;omega) (by rw[List.length_append,SPL.2.2.2.2.2.2.2.2];omega)
    rw[List.length_append]at ih2
    have e2:((pre.length+[x].length:Nat):Int) =((pre.length+1:Nat):Int):=rfl
    rw[e2]at ih2
    rw[ih2]
    simp[sp]
 intro vs hA n ws hn hw
 exact key l [] vs n ws rfl hA hn hw
theorem b65 {α:Type}{R:α->List WK->Prop}{c:α->Nat}{S:List α->Nat}(h0:S []=0)(hS:∀x r,S (x::r)=c x+S r)(hc:∀x w,R x w->w.length+1<=c x){l:List α}{vs:List (List WK)}(h:a1e R l vs):(jo vs).length<=S l/\vs.flatten.length<=S l:=by
 induction h with
 | nil=>simp[jo]
 | @cons x w r us hR hA ih =>
  have:=hc _ _ hR
  rw[hS,List.flatten_cons,List.length_append]
  cases us with
  | nil=>simp only[jo,List.flatten_nil,List.length_nil]at ih ⊢;omega
  | cons u us=>simp only[jo,List.length_append,List.length_cons]at ih ⊢;omega
theorem app144 {l m:List Nod}(h1:l.length<=10000000000)(h2:m.length<=10):app 144 l m=some (l++m):=by
 refine c08 ?_
 omega
theorem of_p {n:Nat}{x:Nod}{o:Int}(hn:3<=n)(hL:x.l.length<=1000000000):∀(m i:Nat) (r:List Nod),x.l.length<m+i->i<=x.l.length->r.length<=i->a7L n x [o] m r i=some (r ++(x.l.drop i).filter fun y=>eqB y.op o)
 | 0,_,_,_,_,_=>by omega
 | m+1,i,r,h1,h2,h3=>by
  rw[a7L.eq_2]
  rcases Nat.lt_or_ge i x.l.length with h|h
  ·obtain⟨q,rfl⟩:∃q,n=q+2:=⟨n-2,by omega⟩
   have e1:idx' [o] 0=some o:=a0S (l:=[o]) (i:=0) (by simp)
   have e2:w64 (0+1)=1:=by decide
   have c1:ltB 0 ((1:Nat):Int)=true:=a0v (by omega)
   have c2:ltB 1 ((1:Nat):Int)=false:=a1j (by omega)
   rw[a0v (by omega),a0S h,drop_eq h]
   simp only[NF,b0C.eq_2,List.length_singleton,c1,c2,e1,e2,List.filter_cons]
   cases hb:eqB x.l[i].op o
   ·simp only[NF,F9 (show i<=1000000000000 by omega)]
    exact of_p hn hL m (i+1) r (by omega) (by omega) (by omega)
   ·simp only[NF,app144 (show r.length<=10000000000 by omega) (show [x.l[i]].length<=10 by simp),F9 (show i<=1000000000000 by omega),if_true]
    rw[of_p hn hL m (i+1) (r++[x.l[i]]) (by omega) (by omega) (by simp;omega)]
    simp
  ·rw[a1j (by omega),List.drop_of_length_le h]
   simp
theorem ofs {n:Nat}{x:Nod}{o:Int}(hn:x.l.length+3<=n)(hL:x.l.length<=1000000000):a8D n x [o]=some (x.l.filter fun y=>eqB y.op o):=by
 unfold a8D
 have h1:=of_p (n:=n) (x:=x) (o:=o) (by omega) hL n 0 [] (by omega) (Nat.zero_le _) (Nat.le_refl _)
 simp only[List.drop_zero,List.nil_append,Int.natCast_zero]at h1
 rw[h1]
 rfl
theorem kid0 {o:Int}{s:Str}{n:Int}{t:Typ}{ts:List Typ}{x:Nod}{l:List Nod}{a:Int}:V3 ⟨o,s,n,t,ts,x::l,a⟩ 0=some x:=by
 unfold V3
 rw[a0v (by simp only[List.length_cons];omega),show idx' (x::l) 0=some x from a0S (l:=x::l) (i:=0) (Nat.succ_pos _)]
 rfl
theorem kid1 {o:Int}{s:Str}{n:Int}{t:Typ}{ts:List Typ}{x y:Nod}{l:List Nod}{a:Int}:V3 ⟨o,s,n,t,ts,x::y::l,a⟩ 1=some y:=by
 unfold V3
 rw[a0v (by simp only[List.length_cons];omega),show idx' (x::y::l) 1=some y from a0S (l:=x::y::l) (i:=1) (by simp)]
 rfl
theorem rest1 {o:Int}{s:Str}{n:Int}{t:Typ}{ts:List Typ}{x:Nod}{l:List Nod}{a:Int}:a4D ⟨o,s,n,t,ts,x::l,a⟩ 1=some l:=by
 unfold a4D
 cases l with
 | nil=>rw[a1j (by simp)];rfl
 | cons y r =>
  rw[a0v (by simp only[List.length_cons];omega),show b0X (x::y::r) 1 (((x::y::r).length:Nat):Int)=_ from b3b (l:=x::y::r) (a:=1) (b:=(x::y::r).length) (by simp) (Nat.le_refl _)]
  simp[NF]
theorem esc_v {s:Str}(h:s.length<=20000):escG s=some (Rp.esc s):=by
 unfold escG leN
 rw[decide_eq_true (by omega)]
theorem cat_v {a b:Str}(h:a.length+b.length<=100000):cat a b=some (a++b):=by
 unfold cat
 rw[b5u (by omega)]
theorem b4I {s:Str}(h:s.length<=20000)(c:UInt8)(q:Str)(hq:q.length<=10):cat [c] (Rp.esc s)=some (c::Rp.esc s)/\cat (c::Rp.esc s) q=some (c ::(Rp.esc s++q)):=by
 have:=Rp.b0n s
 exact⟨cat_v (a:=[c]) (by simp only[List.length_singleton];omega),cat_v (by rw[List.length_cons];omega)⟩
end Go.Proofs.YtjhfloacokgdiaaGreatDoor
