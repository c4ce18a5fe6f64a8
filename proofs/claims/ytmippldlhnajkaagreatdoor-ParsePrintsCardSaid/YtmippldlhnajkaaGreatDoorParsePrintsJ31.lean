/- Texts of ParsePrints, joined. -/
import Derived.Test.YtmippldlhnajkaaGreatDoorParsePrintsJ30
set_option maxRecDepth 100000
set_option maxHeartbeats 20000000
set_option linter.unusedSimpArgs false
set_option linter.unusedVariables false
set_option linter.unusedSectionVars false
namespace Go.Proofs.YtmippldlhnajkaaGreatDoor
open Go Go.Vm Pr
mutual
def b2v:Nod->Nod->Prop
 |⟨o,s,n,t,ts,l,_⟩,u=>∃l' a',u =⟨o,s,n,t,ts,l',a'⟩/\simL l l'
def simL:List Nod->List Nod->Prop
 | [],u=>u=[]
 | x::r,u=>∃y q,u=y::q/\b2v x y/\simL r q
end
theorem I9 {o:Int}{s:Str}{n:Int}{t:Typ}{ts:List Typ}{l:List Nod}{a:Int}{u:Nod}:b2v ⟨o,s,n,t,ts,l,a⟩ u ↔ ∃l' a',u =⟨o,s,n,t,ts,l',a'⟩/\simL l l':=.rfl
theorem simN_op {x y:Nod}(h:b2v x y):y.op=x.op:=by
 cases x;obtain⟨_,_,rfl,_⟩:=I9.1 h;rfl
theorem c5m:∀{l l':List Nod},simL l l'->l'.length=l.length
 | [],_,h=>by cases h;rfl
 | x::r,_,⟨y,q,e,_,h⟩=>by rw[e,List.length_cons,List.length_cons,c5m h]
theorem a0d {Q:Nod->Prop}:∀{l l':List Nod},simL l l' ->(∀x∈l,∀y,b2v x y->Q y) -> ∀y∈l',Q y
 | [],_,h,_,y,hy=>by cases h;cases hy
 | x::r,_,⟨z,q,e,h1,h⟩,H,y,hy=>by
  subst e;rcases List.mem_cons.1 hy with rfl|hy
  ·exact H x (by simp) _ h1
  ·exact a0d h (fun x hx=>H x (by simp[hx])) y hy
theorem a8u:∀{a b u:List Nod},simL (a++b) u -> ∃p q,u=p++q/\simL a p/\simL b q
 | [],b,u,h=>⟨[],u,rfl,rfl,h⟩
 | x::a,b,_,⟨y,r,e,h1,h⟩=>by
  obtain⟨p,q,e2,h2,h3⟩:=a8u h;exact⟨y::p,q,by rw[e,e2];rfl,⟨y,p,rfl,h1,h2⟩,h3⟩
theorem c8F:∀{a b:List Nod},a.length=b.length ->(∀(j:Nat) x y,a[j]? = some x->b[j]? = some y->b2v x y)->simL a b
 | [],[],_,_=>rfl
 | [],_::_,h,_=>by simp at h
 | _::_,[],h,_=>by simp at h
 | x::a,y::b,h,H=>⟨y,b,rfl,H 0 x y rfl rfl,c8F (by simpa using h) fun j u v hu hv=>H (j+1) u v (by simpa using hu) (by simpa using hv)⟩
theorem G.same {m:Nat}{x:Nod}(h:G m x):∀y,b2v x y->G m y:=by
 induction h with
 | int h0 h1 =>
  intro y hy;obtain⟨_,_,rfl,hl⟩:=I9.1 hy;subst hl;exact .int h0 h1
 | truth  =>
  intro y hy;obtain⟨_,_,rfl,hl⟩:=I9.1 hy;subst hl;exact .truth
 | text h0 =>
  intro y hy;obtain⟨_,_,rfl,hl⟩:=I9.1 hy;subst hl;exact .text h0
 | name h0 =>
  intro y hy;obtain⟨_,_,rfl,hl⟩:=I9.1 hy;subst hl;exact .name h0
 | use h0 =>
  intro y hy;obtain⟨_,_,rfl,hl⟩:=I9.1 hy;subst hl;exact .use h0
 | stat0 h0 h1 =>
  intro y hy;obtain⟨_,_,rfl,hl⟩:=I9.1 hy;subst hl;exact .stat0 h0 h1
 | let0 h0 h1 =>
  intro y hy;obtain⟨_,_,rfl,hl⟩:=I9.1 hy;subst hl;exact .let0 h0 h1
 | ret0  =>
  intro y hy;obtain⟨_,_,rfl,hl⟩:=I9.1 hy;subst hl;exact .ret0
 | wild  =>
  intro y hy;obtain⟨_,_,rfl,hl⟩:=I9.1 hy;subst hl;exact .wild
 | bnd h0 =>
  intro y hy;obtain⟨_,_,rfl,hl⟩:=I9.1 hy;subst hl;exact .bnd h0
 | pint h0 =>
  intro y hy;obtain⟨_,_,rfl,hl⟩:=I9.1 hy;subst hl;exact .pint h0
 | ptruth h0 =>
  intro y hy;obtain⟨_,_,rfl,hl⟩:=I9.1 hy;subst hl;exact .ptruth h0
 | ptext h0 =>
  intro y hy;obtain⟨_,_,rfl,hl⟩:=I9.1 hy;subst hl;exact .ptext h0
 | param h0 h1 =>
  intro y hy;obtain⟨_,_,rfl,hl⟩:=I9.1 hy;subst hl;exact .param h0 h1
 | list  _ ih =>
  intro y hy;obtain⟨_,_,rfl,hl⟩:=I9.1 hy;exact .list  (a0d hl ih)
 | call h0 _ ih =>
  intro y hy;obtain⟨_,_,rfl,hl⟩:=I9.1 hy;exact .call h0 (a0d hl ih)
 | stat1 h0 h1 _ ih =>
  intro y hy;obtain⟨_,_,rfl,hl⟩:=I9.1 hy;exact .stat1 h0 h1 (a0d hl ih)
 | make h0 _ ih =>
  intro y hy;obtain⟨_,_,rfl,hl⟩:=I9.1 hy;exact .make h0 (a0d hl ih)
 | block  _ ih =>
  intro y hy;obtain⟨_,_,rfl,hl⟩:=I9.1 hy;exact .block  (a0d hl ih)
 | pcase h0 _ ih =>
  intro y hy;obtain⟨_,_,rfl,hl⟩:=I9.1 hy;exact .pcase h0 (a0d hl ih)
 | interp _ h1 h2 ih =>
  intro y hy;obtain⟨_,_,rfl,hl⟩:=I9.1 hy;have e:=c5m hl;exact .interp (a0d hl ih) (by omega) (by omega)
 | un h0 _ ih =>
  intro y hy;obtain⟨_,_,rfl,hl⟩:=I9.1 hy;obtain⟨_,_,rfl,g0,hl⟩:=hl;subst hl;exact .un h0 (ih _ g0)
 | field h0 _ ih =>
  intro y hy;obtain⟨_,_,rfl,hl⟩:=I9.1 hy;obtain⟨_,_,rfl,g0,hl⟩:=hl;subst hl;exact .field h0 (ih _ g0)
 | let1 h0 h1 _ ih =>
  intro y hy;obtain⟨_,_,rfl,hl⟩:=I9.1 hy;obtain⟨_,_,rfl,g0,hl⟩:=hl;subst hl;exact .let1 h0 h1 (ih _ g0)
 | sole  _ ih =>
  intro y hy;obtain⟨_,_,rfl,hl⟩:=I9.1 hy;obtain⟨_,_,rfl,g0,hl⟩:=hl;subst hl;exact .sole  (ih _ g0)
 | ret1  _ ih =>
  intro y hy;obtain⟨_,_,rfl,hl⟩:=I9.1 hy;obtain⟨_,_,rfl,g0,hl⟩:=hl;subst hl;exact .ret1  (ih _ g0)
 | throws  _ ih =>
  intro y hy;obtain⟨_,_,rfl,hl⟩:=I9.1 hy;obtain⟨_,_,rfl,g0,hl⟩:=hl;subst hl;exact .throws  (ih _ g0)
 | defer  _ ih =>
  intro y hy;obtain⟨_,_,rfl,hl⟩:=I9.1 hy;obtain⟨_,_,rfl,g0,hl⟩:=hl;subst hl;exact .defer  (ih _ g0)
 | lend  _ ih =>
  intro y hy;obtain⟨_,_,rfl,hl⟩:=I9.1 hy;obtain⟨_,_,rfl,g0,hl⟩:=hl;subst hl;exact .lend  (ih _ g0)
 | bin h0 _ _ ih ih2 =>
  intro y hy;obtain⟨_,_,rfl,hl⟩:=I9.1 hy;obtain⟨_,_,rfl,g0,hl⟩:=hl;obtain⟨_,_,rfl,g1,hl⟩:=hl;subst hl;exact .bin h0 (ih _ g0) (ih2 _ g1)
 | assign  _ _ ih ih2 =>
  intro y hy;obtain⟨_,_,rfl,hl⟩:=I9.1 hy;obtain⟨_,_,rfl,g0,hl⟩:=hl;obtain⟨_,_,rfl,g1,hl⟩:=hl;subst hl;exact .assign  (ih _ g0) (ih2 _ g1)
 | if2  _ _ ih ih2 =>
  intro y hy;obtain⟨_,_,rfl,hl⟩:=I9.1 hy;obtain⟨_,_,rfl,g0,hl⟩:=hl;obtain⟨_,_,rfl,g1,hl⟩:=hl;subst hl;exact .if2  (ih _ g0) (ih2 _ g1)
 | whil  _ _ ih ih2 =>
  intro y hy;obtain⟨_,_,rfl,hl⟩:=I9.1 hy;obtain⟨_,_,rfl,g0,hl⟩:=hl;obtain⟨_,_,rfl,g1,hl⟩:=hl;subst hl;exact .whil  (ih _ g0) (ih2 _ g1)
 | doc h0 _ _ ih ih2 =>
  intro y hy;obtain⟨_,_,rfl,hl⟩:=I9.1 hy;obtain⟨_,_,rfl,g0,hl⟩:=hl;obtain⟨_,_,rfl,g1,hl⟩:=hl;subst hl;exact .doc h0 (ih _ g0) (ih2 _ g1)
 | arm  _ _ ih ih2 =>
  intro y hy;obtain⟨_,_,rfl,hl⟩:=I9.1 hy;obtain⟨_,_,rfl,g0,hl⟩:=hl;obtain⟨_,_,rfl,g1,hl⟩:=hl;subst hl;exact .arm  (ih _ g0) (ih2 _ g1)
 | if3 _ _ _ ih ih2 ih3 =>
  intro y hy;obtain⟨_,_,rfl,hl⟩:=I9.1 hy;obtain⟨_,_,rfl,g0,hl⟩:=hl;obtain⟨_,_,rfl,g1,hl⟩:=hl;obtain⟨_,_,rfl,g2,hl⟩:=hl;subst hl;exact .if3 (ih _ g0) (ih2 _ g1) (ih3 _ g2)
 | if4 _ _ _ ho ih ih2 ih3 =>
  intro y hy;obtain⟨_,_,rfl,hl⟩:=I9.1 hy;obtain⟨_,_,rfl,g0,hl⟩:=hl;obtain⟨_,_,rfl,g1,hl⟩:=hl;obtain⟨_,_,rfl,g2,hl⟩:=hl;subst hl;exact .if4 (ih _ g0) (ih2 _ g1) (ih3 _ g2) ((simN_op g2).trans ho)
 | method h0 _ _ ih ih2 =>
  intro y hy;obtain⟨_,_,rfl,hl⟩:=I9.1 hy;obtain⟨_,_,rfl,g0,hl⟩:=hl;exact .method h0 (ih _ g0) (a0d hl ih2)
 | apply  _ _ ih ih2 =>
  intro y hy;obtain⟨_,_,rfl,hl⟩:=I9.1 hy;obtain⟨_,_,rfl,g0,hl⟩:=hl;exact .apply  (ih _ g0) (a0d hl ih2)
 | mat  _ _ ih ih2 =>
  intro y hy;obtain⟨_,_,rfl,hl⟩:=I9.1 hy;obtain⟨_,_,rfl,g0,hl⟩:=hl;exact .mat  (ih _ g0) (a0d hl ih2)
 | clos h _ _ ih ih2 =>
  intro y hy;obtain⟨_,_,rfl,hl⟩:=I9.1 hy;obtain⟨p,q,rfl,h1,h2⟩:=a8u hl;obtain⟨_,_,rfl,h3,h2⟩:=h2;subst h2;obtain⟨_,_,rfl,h4⟩:=I9.1 h3;exact .clos h (a0d h1 ih) (a0d h4 ih2)
 | arg _ ih =>
  intro y hy;exact .arg (ih _ hy)
theorem DB.same {x y:Nod}(h:DB x)(hy:b2v x y):DB y:=by
 obtain⟨s,a,rfl,h⟩:=h;obtain⟨_,_,rfl,hl⟩:=I9.1 hy;subst hl;exact⟨_,_,rfl,h⟩
theorem DG.same {x y:Nod}(h:DG x)(hy:b2v x y):DG y:=by
 obtain⟨s,bs,a,rfl,h,hb⟩:=h;obtain⟨_,_,rfl,hl⟩:=I9.1 hy;exact⟨_,_,_,rfl,h,a0d hl fun x hx y=>(hb x hx).same⟩
theorem DQ.same {x y:Nod}(h:DQ x)(hy:b2v x y):DQ y:=by
 rcases h with⟨t,s,a,rfl,h⟩ |⟨t,u,a,rfl,h⟩<;>obtain⟨_,_,rfl,hl⟩:=I9.1 hy<;>subst hl
 ·exact .inl ⟨_,_,_,rfl,h⟩
 ·exact .inr ⟨_,_,_,rfl,h⟩
theorem DW.same {x y:Nod}(h:DW x)(hy:b2v x y):DW y:=by
 obtain⟨t,a,rfl,h⟩:=h;obtain⟨_,_,rfl,hl⟩:=I9.1 hy;subst hl;exact⟨_,_,rfl,h⟩
theorem DF.same {k:Int}{x y:Nod}(h:DF k x)(hy:b2v x y):DF k y:=by
 obtain @⟨s,t,gs,ps,ws,qs,bs,a,hl,hg,hgs,hps,hws,hqs,hbs,hk⟩:=h;obtain⟨_,_,rfl,h⟩:=I9.1 hy;obtain⟨gs',_,rfl,h1,h⟩:=a8u h;obtain⟨ps',_,rfl,h2,h⟩:=a8u h;obtain⟨ws',_,rfl,h3,h⟩:=a8u h;obtain⟨qs',bs',rfl,h4,h5⟩:=a8u h;refine .mk hl hg (a0d h1 fun x hx y=>(hgs x hx).same) (a0d h2 fun x hx y=>(hps x hx).same y) (a0d h3 fun x hx y=>(hws x hx).same) (a0d h4 fun x hx y=>(hqs x hx).same) (a0d h5 fun x hx y=>(hbs x hx).same y) ?_;rcases hk with h0 |⟨h0,rfl⟩
 ·exact .inl h0
 ·exact .inr ⟨h0,h5⟩
theorem DA.same {x y:Nod}(h:DA x)(hy:b2v x y):DA y:=by
 obtain⟨s,bs,a,rfl,h,hb⟩:=h;obtain⟨_,_,rfl,hl⟩:=I9.1 hy;exact⟨_,_,_,rfl,h,a0d hl fun x hx y=>(hb x hx).same⟩
theorem DL.same {x y:Nod}(h:DL x)(hy:b2v x y):DL y:=by
 obtain⟨s,t,a,rfl,h⟩:=h;obtain⟨_,_,rfl,hl⟩:=I9.1 hy;subst hl;exact⟨_,_,_,rfl,h⟩
theorem DM.same {x y:Nod}(h:DM x)(hy:b2v x y):DM y:=by
 cases h<;>obtain⟨_,_,rfl,hl⟩:=I9.1 hy
 ·subst hl;exact .field ‹_› ‹_›
 ·subst hl;exact .case ‹_› ‹_›
 ·obtain⟨_,_,rfl,h,hl⟩:=hl;subst hl;exact .deinit (G.same ‹_› _ h)
theorem DD.same {x y:Nod}(h:DD x)(hy:b2v x y):DD y:=by
 cases h with
 | recd ho hl hgs hms =>
  obtain⟨_,_,rfl,h⟩:=I9.1 hy;obtain⟨_,_,rfl,h1,h2⟩:=a8u h;exact .recd ho hl (a0d h1 fun x hx y=>(hgs x hx).same) (a0d h2 fun x hx y=>(hms x hx).same)
 | prot hl hM =>
  obtain⟨_,_,rfl,h⟩:=I9.1 hy;exact .prot hl (a0d h fun x hx y hy=>(hM x hx).imp (·.same hy) (·.same hy))
 | ext hl hg hqs hM =>
  obtain⟨_,_,rfl,h⟩:=I9.1 hy;obtain⟨_,_,rfl,h1,h2⟩:=a8u h;exact .ext hl hg (a0d h1 fun x hx y=>(hqs x hx).same) (a0d h2 fun x hx y hy=>(hM x hx).imp (·.same hy) (·.same hy))
 | func H=>exact .func (H.same hy)
def gl {α:Type}(f:α->α->Option Bool)(a b:List α):Nat->Int->Option (Lr (Unit) (Bool))|0,_=>none|m+1,i=>cond (ltB i (List.length a:Int)) ((idx' a i).bind fun x=>(idx' b i).bind fun y=>(f x y).bind fun r=>cond (!r) (some (.out (false))) (gl f a b m (w64 (i+1)))) (some (.brk ()))
theorem gl_ok {α:Type}{f:α->α->Option Bool}{R:α->α->Prop}{a b:List α}(hl:a.length=b.length)(hM:a.length<=1000000)(hf:∀x∈a,∀y,∃v,f x y=some v/\(v=true->R x y)/\(x=y->v=true)) :
  ∀(m i:Nat),i<=a.length->a.length<m+i -> ∃v,gl f a b m (i:Int)=some (cond v (.brk ()) (.out false))/\(v=true -> ∀(j:Nat) x y,(a.drop i)[j]? = some x ->(b.drop i)[j]? = some y->R x y)/\(a=b->v=true)
 | 0,i,h1,h2=>by omega
 | m+1,i,h1,h2=>by
  simp only[gl];rcases Nat.lt_or_ge i a.length with h|h
  ·have hb:i<b.length:=by omega
   obtain⟨v,e,e1,e2⟩:=hf _ (List.getElem_mem h) b[i];rw[R4 (by omega),cond_true,O3 h,Option.bind_some,O3 hb,Option.bind_some,e,Option.bind_some,L6 (by omega)];cases v with
   | false=>exact⟨false,rfl,fun h=>(by cases h),fun h=>e2 (by subst h;rfl)⟩
   | true =>
    obtain⟨v,g1,g2,g3⟩:=gl_ok hl hM hf m (i+1) h (by omega);refine⟨v,g1,fun hv j x y hx hy=>?_,g3⟩;rw[drop_eq h]at hx;rw[drop_eq hb]at hy;cases j with
    | zero =>
     simp only[List.getElem?_cons_zero,Option.some.injEq]at hx hy;subst hx hy;exact e1 rfl
    | succ j =>
     rw[List.getElem?_cons_succ]at hx hy;exact g2 hv j x y hx hy
  ·rw[O8 (by omega),cond_false];refine⟨true,rfl,fun _ j x y hx hy=>?_,fun _=>rfl⟩;rw[List.drop_of_length_le h]at hx;simp at hx
theorem gl_all {α:Type}{f:α->α->Option Bool}{R:α->α->Prop}{a b:List α}{n:Nat}(hM:a.length<=1000000)(hn:a.length<n)(hf:∀x∈a,∀y,∃v,f x y=some v/\(v=true->R x y)/\(x=y->v=true)) :
  ∃v,(cond (!eqB (List.length a:Int) (List.length b:Int)) (some (false)) (a1c (α:=Unit) (gl f a b n 0) fun _=>some (true)))=some v/\(v=true->a.length=b.length /\ ∀(j:Nat) x y,a[j]? = some x->b[j]? = some y->R x y)/\(a=b->v=true):=by
 by_cases hl:a.length=b.length
 ·obtain⟨v,g1,g2,g3⟩:=gl_ok (R:=R) hl hM hf n 0 (Nat.zero_le _) (by omega);rw[List.drop_zero,List.drop_zero]at g2;rw[Int.natCast_zero]at g1;rw[a1s (by omega),g1];refine⟨v,?_,fun h=>⟨hl,g2 h⟩,g3⟩;cases v<;>rfl
 ·rw[a0i (by omega)];exact⟨false,rfl,fun h=>(by cases h),fun h=>absurd (by rw[h]) hl⟩
theorem et4 (n:Nat)(Φ:G8)(a b:List Typ):∀m i,a5R n Φ a b m i=gl Φ.a0f a b m i
 | 0,i=>rfl
 | m+1,i=>by simp only[a5R,gl,et4 n Φ a b m]
theorem en4 (n:Nat)(Φ:H7)(a b:List Nod)(q:Bool):∀m i,a5Q n Φ a q b m i=gl (fun x y=>Φ.Y7 x y q) a b m i
 | 0,i=>rfl
 | m+1,i=>by simp only[a5Q,gl,en4 n Φ a b q m]
theorem c6l {a b:Int}:eqB a b=true↔a=b:=by rw[a0j,decide_eq_true_iff]
theorem eqS_eq {a b:Str}:eqS a b=true↔a=b:=by simp[eqS]
theorem ets_ok {n:Nat}{a b:List Typ}{Φ:G8}(hM:a.length<=1000000)(hn:a.length<n)(H:∀x∈a,∀y,∃v,Φ.a0f x y=some v/\(v=true->x=y)/\(x=y->v=true)):∃v,a4W n Φ a b=some v/\(v=true->a=b)/\(a=b->v=true):=by
 unfold a4W;rw[et4];obtain⟨v,e,e1,e2⟩:=gl_all (R:=Eq) (b:=b) hM hn H;refine⟨v,e,fun h=>?_,e2⟩;obtain⟨h1,h2⟩:=e1 h;refine List.ext_getElem? fun j=>?_;rcases Nat.lt_or_ge j a.length with h|h
 ·rw[List.getElem?_eq_getElem h,List.getElem?_eq_getElem (by omega),h2 j _ _ (List.getElem?_eq_getElem h) (List.getElem?_eq_getElem (by omega))]
 ·rw[List.getElem?_eq_none h,List.getElem?_eq_none (by omega)]
theorem et_ok:∀(k:Nat) (t u:Typ) (n:Nat),t.sz<=k->t.sz<=1000000->2*t.sz+1<=n -> ∃v,(G8.fs n).a0f t u=some v/\(v=true->t=u)/\(t=u->v=true)
 | 0,t,u,n,h1,h2,h3=>by have:=t.S9;omega
 | k+1,t,u,0,h1,h2,h3=>by omega
 | k+1,t,u,1,h1,h2,h3=>by have:=t.S9;omega
 | k+1,t,u,n+2,h1,h2,h3=>by
  have hs:=t.S9;have hl:=a4t t.args;obtain⟨v,e,e1,e2⟩:=ets_ok (n:=n) (a:=t.args) (b:=u.args) (Φ:=G8.fs n) (by omega) (by omega) fun x hx y=>et_ok k x y n (by have:=a4f hx;omega) (by have:=a4f hx;omega) (by have:=a4f hx;omega);have e:(G8.fs (n+1)).a0p t.args u.args=some v:=e;show ∃v,a5E (n+1) (G8.fs (n+1)) t u=some v/\_;unfold a5E;simp only[e,BSm];cases h1:eqB t.kind u.kind with
  | false=>exact⟨_,rfl,fun h=>(by cases h),fun h=>(by subst h;rw[a1s rfl]at h1;cases h1)⟩
  | true =>
   cases h2:eqS t.name u.name with
   | false=>exact⟨_,rfl,fun h=>(by cases h),fun h=>(by subst h;rw[b0X]at h2;cases h2)⟩
   | true =>
    cases h3:eqB t.n u.n with
    | false=>exact⟨_,rfl,fun h=>(by cases h),fun h=>(by subst h;rw[a1s rfl]at h3;cases h3)⟩
    | true =>
     refine⟨v,rfl,fun h=>?_,fun h=>e2 (by rw[h])⟩;rw[c6l]at h1 h3;rw[eqS_eq]at h2;rw[<-c0J t,<-c0J u,h1,h2,h3,e1 h]
theorem en_ok {q:Bool}:∀(k:Nat) (x u:Nod) (n:Nat),x.sz<=k->x.sz<=1000000->2*x.sz+2<=n -> ∃v,(H7.fs n).Y7 x u q=some v/\(v=true->b2v x u)/\(x=u->v=true)
 | 0,x,u,n,h1,h2,h3=>by have:=x.S9;omega
 | k+1,x,u,0,h1,h2,h3=>by omega
 | k+1,x,u,1,h1,h2,h3=>by omega
 | k+1,x,u,n+2,h1,h2,h3=>by
  have hs:=x.S9;have hl:=G5 x.l;have hlt:=a4t x.ts;obtain⟨v1,a0,a1,a2⟩:=et_ok x.t.sz x.t u.t (n+1) (Nat.le_refl _) (by omega) (by omega);have a0:a0f (n+1) x.t u.t=some v1:=a0;obtain⟨v2,b0,b1,b2⟩:=ets_ok (n:=n) (a:=x.ts) (b:=u.ts) (Φ:=G8.fs n) (by omega) (by omega) fun y hy z=>et_ok y.sz y z n (Nat.le_refl _) (by have:=a4f hy;omega) (by have:=a4f hy;omega);have b0:a0p (n+1) x.ts u.ts=some v2:=b0;obtain⟨v3,c0,c1,c2⟩:=gl_all (f:=fun x y=>(H7.fs n).Y7 x y q) (R:=b2v) (a:=x.l) (b:=u.l) (n:=n) (by omega) (by omega) fun y hy z=>en_ok k y z n (by have:=I5 hy;omega) (by have:=I5 hy;omega) (by have:=I5 hy;omega);have c0:(H7.fs (n+1)).a1q x.l u.l q=some v3:=by
   show a4V n (H7.fs n) x.l u.l q=_;unfold a4V;rw[en4];exact c0
  show ∃v,a5D (n+1) (H7.fs (n+1)) x u q=some v/\_;unfold a5D;simp only[a0,b0,c0,NF,BSm];have no:∀{p:Bool},p=false ->(x=u->p=true) -> ∃v,some false=some v/\(v=true->b2v x u)/\(x=u->v=true):=fun hp h=>⟨false,rfl,fun h=>(by cases h),fun e=>(by rw[h e]at hp;cases hp)⟩
  cases h1:eqB x.op u.op with
  | false=>exact no h1 fun h=>a1s (by rw[h])
  | true =>
   cases h2:eqS x.s u.s with
   | false=>exact no h2 fun h=>by rw[h,b0X]
   | true =>
    cases h3:eqB x.n u.n with
    | false=>exact no h3 fun h=>a1s (by rw[h])
    | true =>
     have fin:∃v,Option.bind (α:=Bool) (cond (!v1) (some true) (some (!v2))) (fun x501=>cond x501 (some false) (some v3))=some v/\(v=true->b2v x u)/\(x=u->v=true):=by
      cases v1 with
      | false=>exact no rfl fun h=>a2 (by rw[h])
      | true =>
       cases v2 with
       | false=>exact no rfl fun h=>b2 (by rw[h])
       | true =>
        refine⟨v3,rfl,fun h=>?_,fun h=>c2 (by rw[h])⟩;rw[c6l]at h1 h3;rw[eqS_eq]at h2;obtain⟨g1,g2⟩:=c1 h;have g3:=a1 rfl;have g4:=b1 rfl;obtain⟨xo,xs,xn,xt,xts,xl,xa⟩:=x;obtain⟨uo,us,un,ut,uts,ul,ua⟩:=u;simp only at h1 h2 h3 g1 g2 g3 g4;subst h1 h2 h3 g3 g4;exact⟨ul,ua,rfl,c8F g1 g2⟩
     cases q with
     | false=>exact fin
     | true =>
      cases h4:eqB x.at_ u.at_ with
      | false=>exact no h4 fun h=>a1s (by rw[h])
      | true=>exact fin
theorem cts_ok {n:Nat}{l:List Typ}{Φ:F6}(hL:l.length<=1000000)(H:∀x∈l,Φ.Z6 x=some x.args):∀(m i:Nat) (r:List Typ),l.length<m+i->i<=l.length->r.length<=i->a4N n Φ l m r (i:Int)=some (r++l.drop i)
 | 0,i,r,h1,h2,h3=>by omega
 | m+1,i,r,h1,h2,h3=>by
  rw[a4N.eq_2];rcases Nat.lt_or_ge i l.length with h|h
  ·have A:∀x:Typ,app 56 r [x]=some (r++[x]):=fun x=>c1P (by simp only[List.length_singleton];omega);rw[R4 (by omega),O3 h,drop_eq h];simp only[NF,H _ (List.getElem_mem h),c0J,A,L6 (show i<=1000000000000 by omega)];rw[cts_ok hL H m (i+1) _ (by omega) (by omega) (by simp;omega)];simp
  ·rw[O8 (by omega),List.drop_of_length_le h];simp
theorem ct_ok:∀(k:Nat) (n:Nat),(∀t:Typ,t.sz<=k->t.sz<=1000000->2*t.sz+1<=n ->(F6.fs n).Z6 t=some t.args)/\(∀l:List Typ,szT l<=k->szT l<=1000000->2*szT l+2<=n ->(F6.fs n).Y8 l=some l)
 | k,0=>⟨fun t _ _ _=>by have:=t.S9;omega,fun l _ _ _=>by omega⟩
 | k,n+1=>by
  obtain⟨g1,g2⟩:=ct_ok k n;refine⟨fun t h1 h2 h3=>?_,fun l h1 h2 h3=>?_⟩
  ·have:=t.S9;show a4C n (F6.fs n) t=_;unfold a4C;rw[g2 t.args (by omega) (by omega) (by omega)];rfl
  ·have hl:=a4t l;show a3T n (F6.fs n) l=_;unfold a3T;have e:=cts_ok (n:=n) (Φ:=F6.fs n) (l:=l) (by omega) (fun x hx=>g1 x (by have:=a4f hx;omega) (by have:=a4f hx;omega) (by have:=a4f hx;omega)) n 0 [] (by omega) (Nat.zero_le _) (by simp);rw[Int.natCast_zero]at e;rw[e];rfl
theorem eta_n (x:Nod):(⟨x.op,x.s,x.n,⟨x.t.kind,x.t.name,x.t.n,x.t.args⟩,x.ts,x.l,x.at_⟩:Nod)=x:=by rw[c0J];cases x;rfl
theorem cns_ok {n:Nat}{l:List Nod}{Φ:F5}(hL:l.length<=1000000)(H:∀x∈l,Φ.Z5 x=some x):∀(m i:Nat) (r:List Nod),l.length<m+i->i<=l.length->r.length<=i->a4M n Φ l m r (i:Int)=some (r++l.drop i)
 | 0,i,r,h1,h2,h3=>by omega
 | m+1,i,r,h1,h2,h3=>by
  rw[a4M.eq_2];rcases Nat.lt_or_ge i l.length with h|h
  ·rw[R4 (by omega),O3 h,drop_eq h];simp only[NF,H _ (List.getElem_mem h),c1O (show r.length<=10000000000 by omega) (show [l[i]].length<=10 by simp),L6 (show i<=1000000000000 by omega)];rw[cns_ok hL H m (i+1) _ (by omega) (by omega) (by simp;omega)];simp
  ·rw[O8 (by omega),List.drop_of_length_le h];simp
theorem cn_ok:∀(n:Nat),(∀x:Nod,x.sz<=1000000->2*x.sz+2<=n ->(F5.fs n).Z5 x=some x)/\(∀l:List Nod,szN l<=1000000->2*szN l+3<=n ->(F5.fs n).a0D l=some l)
 | 0=>⟨fun t _ _=>by omega,fun l _ _=>by omega⟩
 | n+1=>by
  obtain⟨g1,g2⟩:=cn_ok n;refine⟨fun x h1 h2=>?_,fun l h1 h2=>?_⟩
  ·have:=x.S9;have:=x.t.S9;have e1:Z6 n x.t=some x.t.args:=(ct_ok x.t.sz n).1 x.t (Nat.le_refl _) (by omega) (by omega);have e2:Y8 n x.ts=some x.ts:=(ct_ok (szT x.ts) n).2 x.ts (Nat.le_refl _) (by omega) (by omega);show a4B n (F5.fs n) x=_;unfold a4B;rw[e1,e2,g2 x.l (by omega) (by omega)];exact congrArg some (eta_n x)
  ·have hl:=G5 l;show a3S n (F5.fs n) l=_;unfold a3S;have e:=cns_ok (n:=n) (Φ:=F5.fs n) (l:=l) (by omega) (fun x hx=>g1 x (by have:=I5 hx;omega) (by have:=I5 hx;omega)) n 0 [] (by omega) (Nat.zero_le _) (by simp);rw[Int.natCast_zero]at e;rw[e];rfl
end Go.Proofs.YtmippldlhnajkaaGreatDoor
