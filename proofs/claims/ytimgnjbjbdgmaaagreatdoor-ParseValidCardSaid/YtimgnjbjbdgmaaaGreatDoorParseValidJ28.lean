/- Texts of ParseValid, joined. -/
import Derived.Test.YtimgnjbjbdgmaaaGreatDoorParseValidJ27
set_option maxRecDepth 100000
set_option maxHeartbeats 20000000
set_option linter.all false
namespace Go.Proofs.YtimgnjbjbdgmaaaGreatDoor
open Go Go.Vm Pr
variable {a:Int} {n:Nat} {x:Nod}
mutual
def b5V:Nod->Nod->Prop
 |⟨o,s,n,t,ts,l,_⟩,u=>∃l' a',u =⟨o,s,n,t,ts,l',a'⟩/\simL l l'
def simL:List Nod->List Nod->Prop
 | [],u=>u=[]
 | x::r,u=>∃y q,u=y::q/\b5V x y/\simL r q
end
theorem I9 {o:Int}{s:Str}{n:Int}{t:Typ}{ts:List Typ}{l:List Nod}{u:Nod}:b5V ⟨o,s,n,t,ts,l,a⟩ u ↔ ∃l' a',u =⟨o,s,n,t,ts,l',a'⟩/\simL l l':=.rfl
theorem simN_op {y:Nod}(h:b5V x y):y.op=x.op:=by
 cases x;obtain⟨_,_,rfl,_⟩:=I9.1 h;rfl
theorem b3y:∀{l l':List Nod},simL l l'->l'.length=l.length
 | [],_,h=>by cases h;rfl
 | x::r,_,⟨y,q,e,_,h⟩=>by rw[e,List.length_cons,List.length_cons,b3y h]
theorem U7 {Q:Nod->Prop}:∀{l l':List Nod},simL l l' ->(∀x∈l,∀y,b5V x y->Q y) -> ∀y∈l',Q y
 | [],_,h,_,y,hy=>by cases h;cases hy
 | x::r,_,⟨z,q,e,h1,h⟩,H,y,hy=>by
  subst e;rcases List.mem_cons.1 hy with rfl|hy
  ·exact H x zSi _ h1
  exact U7 h (fun x hx=>H x (by simp[hx])) y hy
theorem a4m:∀{a b u:List Nod},simL (a++b) u -> ∃p q,u=p++q/\simL a p/\simL b q
 | [],b,u,h=>⟨[],u,rfl,rfl,h⟩
 | x::a,b,_,⟨y,r,e,h1,h⟩=>by
  obtain⟨p,q,e2,h2,h3⟩:=a4m h;exact⟨y::p,q,by rw[e,e2];rfl,⟨y,p,rfl,h1,h2⟩,h3⟩
theorem c7T:∀{a b:List Nod},a.length=b.length ->(∀(j:Nat) x y,a[j]? = some x->b[j]? = some y->b5V x y)->simL a b
 | [],[],_,_=>rfl
 | [],_::_,h,_=>by simp at h
 | _::_,[],h,_=>by simp at h
 | x::a,y::b,h,H=>⟨y,b,rfl,H 0 x y rfl rfl,c7T (by simpa using h) fun j u v hu hv=>H (j+1) u v (by simpa using hu) (by simpa using hv)⟩
theorem PLC.same (h:PLC x):∀y,b5V x y->PLC y:=by
 induction h with
 | nm h=>exact fun y hy=>.nm ((simN_op hy).trans h)
 | fld _ ih =>
  intro y hy;obtain⟨_,_,rfl,hl⟩:=I9.1 hy;obtain⟨_,_,rfl,g,hl⟩:=hl;subst hl;exact .fld (ih _ g)
theorem TX.same {V:Int->Str->Prop}(h:TX V x)(y:Nod)(hy:b5V x y):TX V y:=by
 obtain⟨h⟩:=h;obtain⟨_,_,rfl,hl⟩:=I9.1 hy;subst hl;exact⟨h⟩
theorem sim_fl:∀{ps:List (Nod×Nod)} {u:List Nod},simL (fl ps) u -> ∃qs,u=fl qs/\(qs=[]->ps=[])/\(∀Q:Nod->Prop,(∀p∈ps,∀y,b5V p.1 y->Q y) -> ∀q∈qs,Q q.1)/\(∀Q:Nod->Prop,(∀p∈ps,∀y,b5V p.2 y->Q y) -> ∀q∈qs,Q q.2)
 | [],u,h=>⟨[],h,id,fun _ _ q hq=>(by cases hq),fun _ _ q hq=>(by cases hq)⟩
 | p::r,u,h=>by
  obtain⟨a,_,rfl,h1,b,_,rfl,h2,h⟩:=h;obtain⟨qs,rfl,_,k2,k3⟩:=sim_fl h;refine⟨(a,b)::qs,rfl,fun e=>(by cases e),fun Q H q hq=>?_,fun Q H q hq=>?_⟩<;>rcases List.mem_cons.1 hq with rfl|hq
  ·exact H p List.mem_cons_self _ h1
  ·exact k2 Q (fun p hp=>H p (List.mem_cons_of_mem _ hp)) q hq
  ·exact H p List.mem_cons_self _ h2
  exact k3 Q (fun p hp=>H p (List.mem_cons_of_mem _ hp)) q hq
theorem G.same {V:Int->Str->Prop}{c:Nat}(h:G V c x):∀y,b5V x y->G V c y:=by
 induction h with
 | int h =>
  intro y hy;obtain⟨_,_,rfl,hl⟩:=I9.1 hy;subst hl;exact .int h
 | text h =>
  intro y hy;obtain⟨_,_,rfl,hl⟩:=I9.1 hy;subst hl;exact .text h
 | name h =>
  intro y hy;obtain⟨_,_,rfl,hl⟩:=I9.1 hy;subst hl;exact .name h
 | cons h =>
  intro y hy;obtain⟨_,_,rfl,hl⟩:=I9.1 hy;subst hl;exact .cons h
 | wild =>
  intro y hy;obtain⟨_,_,rfl,hl⟩:=I9.1 hy;subst hl;exact .wild
 | pint h =>
  intro y hy;obtain⟨_,_,rfl,hl⟩:=I9.1 hy;subst hl;exact .pint h
 | pneg h =>
  intro y hy;obtain⟨_,_,rfl,hl⟩:=I9.1 hy;subst hl;exact .pneg h
 | bound h =>
  intro y hy;obtain⟨_,_,rfl,hl⟩:=I9.1 hy;subst hl;exact .bound h
 | tru =>
  intro y hy;obtain⟨_,_,rfl,hl⟩:=I9.1 hy;subst hl;exact .tru
 | fal =>
  intro y hy;obtain⟨_,_,rfl,hl⟩:=I9.1 hy;subst hl;exact .fal
 | ret0 =>
  intro y hy;obtain⟨_,_,rfl,hl⟩:=I9.1 hy;subst hl;exact .ret0
 | ptru =>
  intro y hy;obtain⟨_,_,rfl,hl⟩:=I9.1 hy;subst hl;exact .ptru
 | pfal =>
  intro y hy;obtain⟨_,_,rfl,hl⟩:=I9.1 hy;subst hl;exact .pfal
 | stat0 h h1 =>
  intro y hy;obtain⟨_,_,rfl,hl⟩:=I9.1 hy;subst hl;exact .stat0 h h1
 | let0 h h1 =>
  intro y hy;obtain⟨_,_,rfl,hl⟩:=I9.1 hy;subst hl;exact .let0 h h1
 | bnd h h1 =>
  intro y hy;obtain⟨_,_,rfl,hl⟩:=I9.1 hy;subst hl;exact .bnd h h1
 | rq1 h h1 =>
  intro y hy;obtain⟨_,_,rfl,hl⟩:=I9.1 hy;subst hl;exact .rq1 h h1
 | rq2 h h1 =>
  intro y hy;obtain⟨_,_,rfl,hl⟩:=I9.1 hy;subst hl;exact .rq2 h h1
 | alias h h1 =>
  intro y hy;obtain⟨_,_,rfl,hl⟩:=I9.1 hy;subst hl;exact .alias h h1
 | ptext h =>
  intro y hy;obtain⟨_,_,rfl,hl⟩:=I9.1 hy;subst hl;exact .ptext h
 | thr h =>
  intro y hy;obtain⟨_,_,rfl,hl⟩:=I9.1 hy;subst hl;exact .thr h
 | param h h1 h2 =>
  intro y hy;obtain⟨_,_,rfl,hl⟩:=I9.1 hy;subst hl;exact .param h h1 h2
 | fld h h1 h2 =>
  intro y hy;obtain⟨_,_,rfl,hl⟩:=I9.1 hy;subst hl;exact .fld h h1 h2
 | case h h1 h2 =>
  intro y hy;obtain⟨_,_,rfl,hl⟩:=I9.1 hy;subst hl;exact .case h h1 h2
 | list _ ih =>
  intro y hy;obtain⟨_,_,rfl,hl⟩:=I9.1 hy;exact .list (U7 hl ih)
 | block _ ih =>
  intro y hy;obtain⟨_,_,rfl,hl⟩:=I9.1 hy;exact .block (U7 hl ih)
 | call h _ ih =>
  intro y hy;obtain⟨_,_,rfl,hl⟩:=I9.1 hy;exact .call h (U7 hl ih)
 | pcase h _ ih =>
  intro y hy;obtain⟨_,_,rfl,hl⟩:=I9.1 hy;exact .pcase h (U7 hl ih)
 | make h _ ih =>
  intro y hy;obtain⟨_,_,rfl,hl⟩:=I9.1 hy;exact .make h (U7 hl ih)
 | stat1 h h1 _ ih =>
  intro y hy;obtain⟨_,_,rfl,hl⟩:=I9.1 hy;exact .stat1 h h1 (U7 hl ih)
 | un h _ ih =>
  intro y hy;obtain⟨_,_,rfl,hl⟩:=I9.1 hy;obtain⟨_,_,rfl,g0,hl⟩:=hl;subst hl;exact .un h (ih _ g0)
 | field h _ ih =>
  intro y hy;obtain⟨_,_,rfl,hl⟩:=I9.1 hy;obtain⟨_,_,rfl,g0,hl⟩:=hl;subst hl;exact .field h (ih _ g0)
 | let1 h h1 h2 _ ih =>
  intro y hy;obtain⟨_,_,rfl,hl⟩:=I9.1 hy;obtain⟨_,_,rfl,g0,hl⟩:=hl;subst hl;exact .let1 h h1 h2 (ih _ g0)
 | sole _ ih =>
  intro y hy;obtain⟨_,_,rfl,hl⟩:=I9.1 hy;obtain⟨_,_,rfl,g0,hl⟩:=hl;subst hl;exact .sole (ih _ g0)
 | ret1 _ ih =>
  intro y hy;obtain⟨_,_,rfl,hl⟩:=I9.1 hy;obtain⟨_,_,rfl,g0,hl⟩:=hl;subst hl;exact .ret1 (ih _ g0)
 | thrw _ ih =>
  intro y hy;obtain⟨_,_,rfl,hl⟩:=I9.1 hy;obtain⟨_,_,rfl,g0,hl⟩:=hl;subst hl;exact .thrw (ih _ g0)
 | dfr _ ih =>
  intro y hy;obtain⟨_,_,rfl,hl⟩:=I9.1 hy;obtain⟨_,_,rfl,g0,hl⟩:=hl;subst hl;exact .dfr (ih _ g0)
 | dei _ ih =>
  intro y hy;obtain⟨_,_,rfl,hl⟩:=I9.1 hy;obtain⟨_,_,rfl,g0,hl⟩:=hl;subst hl;exact .dei (ih _ g0)
 | lend _ h ih =>
  intro y hy;obtain⟨_,_,rfl,hl⟩:=I9.1 hy;obtain⟨_,_,rfl,g0,hl⟩:=hl;subst hl;exact .lend (ih _ g0) (h.same _ g0)
 | bin h _ _ ih ih2 =>
  intro y hy;obtain⟨_,_,rfl,hl⟩:=I9.1 hy;obtain⟨_,_,rfl,g0,hl⟩:=hl;obtain⟨_,_,rfl,g1,hl⟩:=hl;subst hl;exact .bin h (ih _ g0) (ih2 _ g1)
 | doc h _ _ ih ih2 =>
  intro y hy;obtain⟨_,_,rfl,hl⟩:=I9.1 hy;obtain⟨_,_,rfl,g0,hl⟩:=hl;obtain⟨_,_,rfl,g1,hl⟩:=hl;subst hl;exact .doc h (ih _ g0) (ih2 _ g1)
 | assign _ h _ ih ih2 =>
  intro y hy;obtain⟨_,_,rfl,hl⟩:=I9.1 hy;obtain⟨_,_,rfl,g0,hl⟩:=hl;obtain⟨_,_,rfl,g1,hl⟩:=hl;subst hl;exact .assign (ih _ g0) (h.same _ g0) (ih2 _ g1)
 | if2 _ _ ih ih2 =>
  intro y hy;obtain⟨_,_,rfl,hl⟩:=I9.1 hy;obtain⟨_,_,rfl,g0,hl⟩:=hl;obtain⟨_,_,rfl,g1,hl⟩:=hl;subst hl;exact .if2 (ih _ g0) (ih2 _ g1)
 | whil _ _ ih ih2 =>
  intro y hy;obtain⟨_,_,rfl,hl⟩:=I9.1 hy;obtain⟨_,_,rfl,g0,hl⟩:=hl;obtain⟨_,_,rfl,g1,hl⟩:=hl;subst hl;exact .whil (ih _ g0) (ih2 _ g1)
 | arm _ _ ih ih2 =>
  intro y hy;obtain⟨_,_,rfl,hl⟩:=I9.1 hy;obtain⟨_,_,rfl,g0,hl⟩:=hl;obtain⟨_,_,rfl,g1,hl⟩:=hl;subst hl;exact .arm (ih _ g0) (ih2 _ g1)
 | if3 _ _ _ ih ih2 ih3 =>
  intro y hy;obtain⟨_,_,rfl,hl⟩:=I9.1 hy;obtain⟨_,_,rfl,g0,hl⟩:=hl;obtain⟨_,_,rfl,g1,hl⟩:=hl;obtain⟨_,_,rfl,g2,hl⟩:=hl;subst hl;exact .if3 (ih _ g0) (ih2 _ g1) (ih3 _ g2)
 | if4 _ _ _ ih ih2 ih3 =>
  intro y hy;obtain⟨_,_,rfl,hl⟩:=I9.1 hy;obtain⟨_,_,rfl,g0,hl⟩:=hl;obtain⟨_,_,rfl,g1,hl⟩:=hl;obtain⟨_,_,rfl,g2,hl⟩:=hl;subst hl;exact .if4 (ih _ g0) (ih2 _ g1) (ih3 _ g2)
 | method h _ _ ih ih2 =>
  intro y hy;obtain⟨_,_,rfl,hl⟩:=I9.1 hy;obtain⟨_,_,rfl,g0,hl⟩:=hl;exact .method h (ih _ g0) (U7 hl ih2)
 | apply _ _ ih ih2 =>
  intro y hy;obtain⟨_,_,rfl,hl⟩:=I9.1 hy;obtain⟨_,_,rfl,g0,hl⟩:=hl;exact .apply (ih _ g0) (U7 hl ih2)
 | mat _ _ ih ih2 =>
  intro y hy;obtain⟨_,_,rfl,hl⟩:=I9.1 hy;obtain⟨_,_,rfl,g0,hl⟩:=hl;exact .mat (ih _ g0) (U7 hl ih2)
 | clos h _ _ ih ih2 =>
  intro y hy;obtain⟨_,_,rfl,hl⟩:=I9.1 hy;obtain⟨p,q,rfl,h1,h2⟩:=a4m hl;obtain⟨_,_,rfl,h3,h2⟩:=h2;subst h2;obtain⟨_,_,rfl,h4⟩:=I9.1 h3;exact .clos h (U7 h1 ih) (U7 h4 ih2)
 | interp h1 h2 _ h4 ih =>
  intro y hy;obtain⟨_,_,rfl,hl⟩:=I9.1 hy;obtain⟨_,_,rfl,g0,hl⟩:=hl;obtain⟨qs,rfl,k1,k2,k3⟩:=sim_fl hl;exact .interp (h1.same _ g0) (fun e=>h2 (k1 e)) (k2 _ ih) (k3 _ fun p hp=>(h4 p hp).same)
 | gen h _ ih =>
  intro y hy;obtain⟨_,_,rfl,hl⟩:=I9.1 hy;exact .gen h (U7 hl ih)
 | assoc h _ ih =>
  intro y hy;obtain⟨_,_,rfl,hl⟩:=I9.1 hy;exact .assoc h (U7 hl ih)
 | sg h h1 e _ _ _ h5 _ i1 i2 i3 i4 =>
  intro y hy;obtain⟨_,_,rfl,hl⟩:=I9.1 hy;subst e;obtain⟨_,_,rfl,k0,hl⟩:=a4m hl;obtain⟨_,_,rfl,k1,hl⟩:=a4m hl;obtain⟨_,_,rfl,k2,hl⟩:=a4m hl;exact .sg h h1 rfl (U7 k0 i1) (U7 k1 i2) (U7 k2 i3) (Nat.le_trans (Nat.le_of_eq (b3y k2)) h5) (U7 hl i4)
 | fn h h1 e _ _ _ h5 _ _ i1 i2 i3 i4 i5 =>
  intro y hy;obtain⟨_,_,rfl,hl⟩:=I9.1 hy;subst e;obtain⟨_,_,rfl,k9,kb⟩:=a4m hl;obtain⟨_,_,rfl,kb,e⟩:=kb;subst e;clear hl hy;have hl:=k9;obtain⟨_,_,rfl,k0,hl⟩:=a4m hl;obtain⟨_,_,rfl,k1,hl⟩:=a4m hl;obtain⟨_,_,rfl,k2,hl⟩:=a4m hl;exact .fn h h1 rfl (U7 k0 i1) (U7 k1 i2) (U7 k2 i3) (Nat.le_trans (Nat.le_of_eq (b3y k2)) h5) (U7 hl i4) (i5 _ kb)
 | strc h h1 e _ _ _ h5 i1 i2 i3 =>
  intro y hy;obtain⟨_,_,rfl,hl⟩:=I9.1 hy;subst e;obtain⟨_,_,rfl,k0,hl⟩:=a4m hl;obtain⟨_,_,rfl,k1,hl⟩:=a4m hl;exact .strc h h1 rfl (U7 k0 i1) (U7 k1 i2) (U7 hl i3) (Nat.le_trans (Nat.le_of_eq (b3y hl)) h5)
 | clss h e _ _ _ h5 i1 i2 i3 =>
  intro y hy;obtain⟨_,_,rfl,hl⟩:=I9.1 hy;subst e;obtain⟨_,_,rfl,k0,hl⟩:=a4m hl;obtain⟨_,_,rfl,k1,hl⟩:=a4m hl;exact .clss h rfl (U7 k0 i1) (U7 k1 i2) (U7 hl i3) (Nat.le_trans (Nat.le_of_eq (b3y hl)) h5)
 | enum h h1 _ _ i1 i2 =>
  intro y hy;obtain⟨_,_,rfl,hl⟩:=I9.1 hy;obtain⟨_,_,rfl,k0,hl⟩:=a4m hl;exact .enum h h1 (U7 k0 i1) (U7 hl i2)
 | prot h _ _ i1 i2 =>
  intro y hy;obtain⟨_,_,rfl,hl⟩:=I9.1 hy;obtain⟨_,_,rfl,k0,hl⟩:=a4m hl;exact .prot h (U7 k0 i1) (U7 hl i2)
 | ext h h1 _ _ _ i1 i2 i3 =>
  intro y hy;obtain⟨_,_,rfl,hl⟩:=I9.1 hy;obtain⟨_,_,rfl,k0,hl⟩:=a4m hl;obtain⟨_,_,rfl,k1,hl⟩:=a4m hl;exact .ext h h1 (U7 k0 i1) (U7 k1 i2) (U7 hl i3)
 | arg _ ih =>
  intro y hy;exact .arg (ih _ hy)
 | ifs _ ih =>
  intro y hy;exact .ifs (ih _ hy)
 | «fun» _ ih =>
  intro y hy;exact .fun (ih _ hy)
def gl {α:Type}(f:α->α->Option Bool)(a b:List α):Nat->Int->Option (Lr (Unit) (Bool))|0,_=>none|m+1,i=>cond (ltB i (List.length a:Int)) ((idx' a i).bind fun x=>(idx' b i).bind fun y=>(f x y).bind fun r=>cond (!r) (some (.out (false))) (gl f a b m (w64 (i+1)))) (some (.brk ()))
theorem gl_ok {α:Type}{f:α->α->Option Bool}{R:α->α->Prop}{a b:List α}(hl:a.length=b.length)(hM:a.length<=1000000)(hf:∀x∈a,∀y,∃v,f x y=some v/\(v=true->R x y)/\(x=y->v=true)) :
  ∀(m i:Nat),i<=a.length->a.length<m+i -> ∃v,gl f a b m (i:Int)=some (cond v (.brk ()) (.out false))/\(v=true -> ∀(j:Nat) x y,(a.drop i)[j]? = some x ->(b.drop i)[j]? = some y->R x y)/\(a=b->v=true)
 | 0,i,h1,h2=>zOm
 | m+1,i,h1,h2=>by
  simp only[gl];rcases Nat.lt_or_ge i a.length with h|h
  ·have hb:i<b.length:=by omega
   obtain⟨v,e,e1,e2⟩:=hf _ (List.getElem_mem h) b[i];rw[a04 zOm,cond_true,a1h h,Option.bind_some,a1h hb,Option.bind_some,e,Option.bind_some,S9 zOm];cases v with
   | false=>exact⟨false,rfl,fun h=>(by cases h),fun h=>e2 (by subst h;rfl)⟩
   | true =>
    obtain⟨v,g1,g2,g3⟩:=gl_ok hl hM hf m (i+1) h zOm;refine⟨v,g1,fun hv j x y hx hy=>?_,g3⟩;rw[drop_eq h]at hx;rw[drop_eq hb]at hy;cases j with
    | zero =>
     simp only[List.getElem?_cons_zero,Option.some.injEq]at hx hy;subst hx hy;exact e1 rfl
    | succ j =>
     rw[List.getElem?_cons_succ]at hx hy;exact g2 hv j x y hx hy
  rw[a2e zOm,cond_false];refine⟨true,rfl,fun _ j x y hx hy=>?_,fun _=>rfl⟩;rw[List.drop_of_length_le h]at hx;simp at hx
theorem gl_all {α:Type}{f:α->α->Option Bool}{R:α->α->Prop}{a b:List α}(hM:a.length<=1000000)(hn:a.length<n)(hf:∀x∈a,∀y,∃v,f x y=some v/\(v=true->R x y)/\(x=y->v=true)) :
  ∃v,(cond (!eqB (List.length a:Int) (List.length b:Int)) (some (false)) (T9 (α:=Unit) (gl f a b n 0) fun _=>some (true)))=some v/\(v=true->a.length=b.length /\ ∀(j:Nat) x y,a[j]? = some x->b[j]? = some y->R x y)/\(a=b->v=true):=by
 by_cases hl:a.length=b.length
 ·obtain⟨v,g1,g2,g3⟩:=gl_ok (R:=R) hl hM hf n 0 (Nat.zero_le _) zOm;rw[List.drop_zero,List.drop_zero]at g2;rw[Int.natCast_zero]at g1;rw[a5O zOm,g1];refine⟨v,?_,fun h=>⟨hl,g2 h⟩,g3⟩;cases v<;>rfl
 rw[a5N zOm];exact⟨false,rfl,fun h=>(by cases h),fun h=>absurd (by rw[h]) hl⟩
theorem et4 (n:Nat)(Φ:I5)(a b:List Typ):∀m i,a5c n Φ a b m i=gl Φ.a1e a b m i
 | 0,i=>rfl
 | m+1,i=>by simp only[a5c,gl,et4 n Φ a b m]
theorem en4 (n:Nat)(Φ:H9)(a b:List Nod)(q:Bool):∀m i,a5b n Φ a q b m i=gl (fun x y=>Φ.a1M x y q) a b m i
 | 0,i=>rfl
 | m+1,i=>by simp only[a5b,gl,en4 n Φ a b q m]
theorem eqB_eq {b:Int}:eqB a b=true↔a=b:=by rw[a5M,decide_eq_true_iff]
theorem eqS_eq {a b:Str}:eqS a b=true↔a=b:=by simp[eqS]
theorem ets_ok {a b:List Typ}{Φ:I5}(hM:a.length<=1000000)(hn:a.length<n)(H:∀x∈a,∀y,∃v,Φ.a1e x y=some v/\(v=true->x=y)/\(x=y->v=true)):∃v,a4x n Φ a b=some v/\(v=true->a=b)/\(a=b->v=true):=by
 unfold a4x;rw[et4];obtain⟨v,e,e1,e2⟩:=gl_all (R:=Eq) (b:=b) hM hn H;refine⟨v,e,fun h=>?_,e2⟩;obtain⟨h1,h2⟩:=e1 h;refine List.ext_getElem? fun j=>?_;rcases Nat.lt_or_ge j a.length with h|h
 ·rw[List.getElem?_eq_getElem h,List.getElem?_eq_getElem zOm,h2 j _ _ (List.getElem?_eq_getElem h) (List.getElem?_eq_getElem zOm)]
 rw[List.getElem?_eq_none h,List.getElem?_eq_none zOm]
theorem et_ok:∀(k:Nat) (t u:Typ) (n:Nat),t.sz<=k->t.sz<=1000000->2*t.sz+1<=n -> ∃v,(I5.fs n).a1e t u=some v/\(v=true->t=u)/\(t=u->v=true)
 | 0,t,u,n,h1,h2,h3=>by have:=t.H8;omega
 | k+1,t,u,0,h1,h2,h3=>zOm
 | k+1,t,u,1,h1,h2,h3=>by have:=t.H8;omega
 | k+1,t,u,n+2,h1,h2,h3=>by
  have hs:=t.H8;have hl:=a6b t.args;obtain⟨v,e,e1,e2⟩:=ets_ok (n:=n) (a:=t.args) (b:=u.args) (Φ:=I5.fs n) zOm zOm fun x hx y=>et_ok k x y n (by have:=a2I hx;omega) (by have:=a2I hx;omega) (by have:=a2I hx;omega);have e:(I5.fs (n+1)).a1I t.args u.args=some v:=e;show ∃v,a5m (n+1) (I5.fs (n+1)) t u=some v/\_;unfold a5m;simp only[e,NF,CD,PF];cases h1:eqB t.kind u.kind with
  | false=>exact⟨_,rfl,fun h=>(by cases h),fun h=>(by subst h;rw[a5O rfl]at h1;cases h1)⟩
  | true =>
   cases h2:eqS t.name u.name with
   | false=>exact⟨_,rfl,fun h=>(by cases h),fun h=>(by subst h;rw[a9d]at h2;cases h2)⟩
   | true =>
    cases h3:eqB t.n u.n with
    | false=>exact⟨_,rfl,fun h=>(by cases h),fun h=>(by subst h;rw[a5O rfl]at h3;cases h3)⟩
    | true =>
     refine⟨v,rfl,fun h=>?_,fun h=>e2 (by rw[h])⟩;rw[eqB_eq]at h1 h3;rw[eqS_eq]at h2;rw[<-b96 t,<-b96 u,h1,h2,h3,e1 h]
theorem en_ok {q:Bool}:∀(k:Nat) (x u:Nod) (n:Nat),x.sz<=k->x.sz<=1000000->2*x.sz+2<=n -> ∃v,(H9.fs n).a1M x u q=some v/\(v=true->b5V x u)/\(x=u->v=true)
 | 0,x,u,n,h1,h2,h3=>by have:=x.H8;omega
 | k+1,x,u,0,h1,h2,h3=>zOm
 | k+1,x,u,1,h1,h2,h3=>zOm
 | k+1,x,u,n+2,h1,h2,h3=>by
  have hs:=x.H8;have hl:=I8 x.l;have hlt:=a6b x.ts;obtain⟨v1,a0,a1,a2⟩:=et_ok x.t.sz x.t u.t (n+1) (Nat.le_refl _) zOm zOm;have a0:a1e (n+1) x.t u.t=some v1:=a0;obtain⟨v2,b0,b1,b2⟩:=ets_ok (n:=n) (a:=x.ts) (b:=u.ts) (Φ:=I5.fs n) zOm zOm fun y hy z=>et_ok y.sz y z n (Nat.le_refl _) (by have:=a2I hy;omega) (by have:=a2I hy;omega);have b0:a1I (n+1) x.ts u.ts=some v2:=b0;obtain⟨v3,c0,c1,c2⟩:=gl_all (f:=fun x y=>(H9.fs n).a1M x y q) (R:=b5V) (a:=x.l) (b:=u.l) (n:=n) zOm zOm fun y hy z=>en_ok k y z n (by have:=a0L hy;omega) (by have:=a0L hy;omega) (by have:=a0L hy;omega);have c0:(H9.fs (n+1)).a4Y x.l u.l q=some v3:=by
   show a4w n (H9.fs n) x.l u.l q=_;unfold a4w;rw[en4];exact c0
  show ∃v,a5l (n+1) (H9.fs (n+1)) x u q=some v/\_;unfold a5l;simp only[a0,b0,c0,NF,CD,PF];have no:∀{p:Bool},p=false ->(x=u->p=true) -> ∃v,some false=some v/\(v=true->b5V x u)/\(x=u->v=true):=fun hp h=>⟨false,rfl,fun h=>(by cases h),fun e=>(by rw[h e]at hp;cases hp)⟩
  cases h1:eqB x.op u.op with
  | false=>exact no h1 fun h=>a5O (by rw[h])
  | true =>
   cases h2:eqS x.s u.s with
   | false=>exact no h2 fun h=>by rw[h,a9d]
   | true =>
    cases h3:eqB x.n u.n with
    | false=>exact no h3 fun h=>a5O (by rw[h])
    | true =>
     have fin:∃v,cond v1 (cond v2 (some v3) (some false)) (some false)=some v/\(v=true->b5V x u)/\(x=u->v=true):=by
      cases v1 with
      | false=>exact no rfl fun h=>a2 (by rw[h])
      | true =>
       cases v2 with
       | false=>exact no rfl fun h=>b2 (by rw[h])
       | true =>
        refine⟨v3,rfl,fun h=>?_,fun h=>c2 (by rw[h])⟩;rw[eqB_eq]at h1 h3;rw[eqS_eq]at h2;obtain⟨g1,g2⟩:=c1 h;have g3:=a1 rfl;have g4:=b1 rfl;obtain⟨xo,xs,xn,xt,xts,xl,xa⟩:=x;obtain⟨uo,us,un,ut,uts,ul,ua⟩:=u;simp only at h1 h2 h3 g1 g2 g3 g4;subst h1 h2 h3 g3 g4;exact⟨ul,ua,rfl,c7T g1 g2⟩
     cases q with
     | false=>exact fin
     | true =>
      cases h4:eqB x.at_ u.at_ with
      | false=>exact no h4 fun h=>a5O (by rw[h])
      | true=>exact fin
theorem sam_t:∀(n:Nat) (x y:Typ),(I6.fs n).a2U x y =(I5.fs n).a1e x y /\ ∀a b:List Typ,(I6.fs n).a0y a b =(I5.fs n).a1I a b
 | 0,x,y=>⟨rfl,fun _ _=>rfl⟩
 | n+1,x,y=>by
  refine⟨?_,fun a b=>?_⟩
  ·show a6l n (I6.fs n) x y=a5m n (I5.fs n) x y;unfold a6l a5m;simp only[(sam_t n x y).2,NF]
  show a3A n (I6.fs n) a b=a4x n (I5.fs n) a b;have h:∀(m:Nat) (i:Int),a4U n (I6.fs n) a b m i=a5c n (I5.fs n) a b m i:=by
   intro m;induction m with
   | zero=>intro i;rfl
   | succ m ih=>intro i;simp only[a4U,a5c,(sam_t n _ _).1,ih]
  unfold a3A a4x;simp only[h]
theorem sam_n:∀(n:Nat) (x y:Nod),(M0.fs n).a6y x y =(H9.fs n).a1M x y false /\ ∀a b:List Nod,(M0.fs n).a1U a b =(H9.fs n).a4Y a b false
 | 0,x,y=>⟨rfl,fun _ _=>rfl⟩
 | n+1,x,y=>by
  refine⟨?_,fun a b=>?_⟩
  ·show a8n n (M0.fs n) x y=a5l n (H9.fs n) x y false;unfold a8n a5l a2U a0y a1e a1I;simp only[(sam_n n x y).2,(sam_t n _ _).1,(sam_t n zT zT).2,NF];cases eqB x.op y.op<;>cases eqS x.s y.s<;>cases eqB x.n y.n<;>simp only[NF,CD,PF]
  show a3z n (M0.fs n) a b=a4w n (H9.fs n) a b false;have h:∀(m:Nat) (i:Int),a4T n (M0.fs n) a b m i=a5b n (H9.fs n) a false b m i:=by
   intro m;induction m with
   | zero=>intro i;rfl
   | succ m ih=>intro i;simp only[a4T,a5b,(sam_n n _ _).1,ih]
  unfold a3z a4w;simp only[h]
variable {q:Int}
mutual
def Typ.fits:Typ->Prop
 |⟨_,s,_,a⟩=>s.length<=140737488355328/\a.length<=140737488355328/\b8k a
def b8k:List Typ->Prop
 | []=>True
 | x::r=>x.fits/\b8k r
end
mutual
def Nod.fits:Nod->Prop
 |⟨_,s,n,t,ts,l,_⟩=>s.length<=140737488355328/\(-9223372036854775808<=n/\n<=9223372036854775807)/\ts.length<=140737488355328/\l.length<=140737488355328/\t.fits/\b8k ts/\c0h l
def c0h:List Nod->Prop
 | []=>True
 | x::r=>x.fits/\c0h r
end
theorem Typ.b25 (x:Typ):x.fits↔x.name.length<=140737488355328/\x.args.length<=140737488355328/\b8k x.args:=by cases x;exact .rfl
theorem Nod.b25 (x:Nod):x.fits↔x.s.length<=140737488355328/\(-9223372036854775808<=x.n/\x.n<=9223372036854775807)/\x.ts.length<=140737488355328/\x.l.length<=140737488355328/\x.t.fits/\b8k x.ts/\c0h x.l:=by cases x;exact .rfl
theorem b1d {x:Typ}:∀{l:List Typ},b8k l->x∈l->x.fits
 | y::r,hf,h=>by
  rcases List.mem_cons.1 h with rfl|h
  ·exact hf.1
  exact b1d hf.2 h
theorem b6k {x:Nod}:∀{l:List Nod},c0h l->x∈l->x.fits
 | y::r,hf,h=>by
  rcases List.mem_cons.1 h with rfl|h
  ·exact hf.1
  exact b6k hf.2 h
def cl {α:Type}(f:α->Int->Option Int)(go:Int->Bool)(l:List α):Nat->Int->Int->Option Int|0,_,_=>none|m+1,k,i=>Option.bind (α:=Bool) (cond (ltB i (List.length l:Int)) (some (go k)) (some false)) fun b=>cond b ((idx' l i).bind fun x=>(f x k).bind fun r=>cl f go l m (w64 (k+r)) (w64 (i+1))) (some k)
theorem cl_ok {α:Type}{f:α->Int->Option Int}{go:Int->Bool}{l:List α}{B U:Int}{P:α->Int->Prop}(hB:B<=1000000/\U<=2000000000000000)(hgo:∀k,go k=true↔k<B)(hL:l.length<=140737488355328)
  (hf:∀x∈l,∀k,0<=k->k<B -> ∃r,f x k=some r/\0<=r/\k+r<=U/\(k+r<B->P x r)):∀(m i:Nat) (k:Int),l.length<m+i->i<=l.length->0<=k->k<=U ->
  ∃r,cl f go l m k (i:Int)=some r/\k<=r/\r<=U/\(r<B -> ∃rs:List Int,rs.length =(l.drop i).length/\r=k+rs.sum /\ ∀(j:Nat) x v,(l.drop i)[j]? = some x->rs[j]? = some v->P x v)
 | 0,i,k,h1,h2,h3,h4=>zOm
 | m+1,i,k,h1,h2,h3,h4=>by
  simp only[cl];rcases Nat.lt_or_ge i l.length with h|h
  ·rw[a04 zOm];simp only[cond_true,Option.bind_some];by_cases hk:k<B
   ·rw[(hgo k).2 hk];obtain⟨v,e,e1,e2,e3⟩:=hf _ (List.getElem_mem h) k h3 hk;simp only[cond_true,a1h h,Option.bind_some,e];rw[a1i (a:=k+v) zOm zOm,show w64 ((i:Int)+1) =((i+1:Nat):Int)from by rw[a1i zOm zOm];rfl];obtain⟨r,g1,g2,g3,g4⟩:=cl_ok hB hgo hL hf m (i+1) (k+v) zOm zOm zOm zOm;refine⟨r,g1,zOm,g3,fun hr=>?_⟩;obtain⟨rs,q1,q2,q3⟩:=g4 hr;rw[drop_eq h];refine⟨v::rs,by rw[List.length_cons,List.length_cons,q1],by rw[List.sum_cons,q2];omega,fun j x u hx hu=>?_⟩;cases j with
    | zero =>
     simp only[List.getElem?_cons_zero,Option.some.injEq]at hx hu;subst hx hu;exact e3 zOm
    | succ j =>
     simp only[List.getElem?_cons_succ]at hx hu;exact q3 j x u hx hu
   have:go k=false:=by
    cases hg:go k with
    | false=>rfl
    | true=>exact absurd ((hgo k).1 hg) hk
   rw[this];exact⟨k,rfl,Int.le_refl _,h4,fun hr=>absurd hr hk⟩
  rw[a2e zOm];refine⟨k,rfl,Int.le_refl _,h4,fun hr=>⟨[],?_,zSi,fun j x v hx hv=>by simp at hv⟩⟩;rw[List.drop_of_length_le h];rfl
theorem c2q {α:Type}{c:α->Nat}{s:List α->Nat}{q:Int}(hs0:s []=0)(hs:∀x r,s (x::r)=c x+s r):∀(l:List α) (rs:List Int),rs.length=l.length ->(∀(j:Nat) x v,l[j]? = some x->rs[j]? = some v ->(c x:Int)<=q*v) ->(s l:Int)<=q*rs.sum
 | [],rs,h1,h2=>by
  have:rs=[]:=List.eq_nil_of_length_eq_zero h1;subst this;rw[hs0];simp
 | x::r,[],h1,h2=>by simp at h1
 | x::r,v::rs,h1,h2=>by
  have g1:=h2 0 x v rfl rfl;have g2:=c2q hs0 hs r rs (by simpa using h1) (fun j y u hy hu=>h2 (j+1) y u (by simpa using hy) (by simpa using hu));rw[hs,List.sum_cons,Int.mul_add];omega
mutual
theorem b9m:∀x:Nod,x.fits->x.rn
 |⟨_,_,_,_,_,l,_⟩,h=>⟨h.2.1,c4v l h.2.2.2.2.2.2⟩
theorem c4v:∀l:List Nod,c0h l->rnN l
 | [],_=>trivial
 | x::r,h=>⟨b9m x h.1,c4v r h.2⟩
end
theorem cl_ge {α:Type}{f:α->Int->Option Int}{go:Int->Bool}{l:List α}{B U:Int}{c:α->Nat}{s:List α->Nat}(hs:s []=0 /\ ∀x r,s (x::r)=c x+s r)(hB:B<=1000000/\U<=2000000000000000)(hgo:∀k,go k=true↔k<B)(hL:l.length<=140737488355328)
  (hf:∀x∈l,∀k,0<=k->k<B -> ∃r,f x k=some r/\0<=r/\k+r<=U/\(k+r<B->r=c x)/\(B<=k+r->B<=k+c x)):∀(m i:Nat) (k:Int),l.length<m+i->i<=l.length->0<=k->k<=U ->
  ∃r,cl f go l m k (i:Int)=some r/\k<=r/\r<=U/\(r<B->r=k+s (l.drop i))/\(B<=r->B<=k+s (l.drop i))
 | 0,i,k,h1,h2,h3,h4=>zOm
 | m+1,i,k,h1,h2,h3,h4=>by
  simp only[cl];rcases Nat.lt_or_ge i l.length with h|h
  ·rw[a04 zOm,drop_eq h,hs.2];simp only[cond_true,Option.bind_some];by_cases hk:k<B
   ·rw[(hgo k).2 hk];obtain⟨v,e,e1,e2,e3,e4⟩:=hf _ (List.getElem_mem h) k h3 hk;simp only[cond_true,a1h h,Option.bind_some,e];rw[a1i (a:=k+v) zOm zOm,show w64 ((i:Int)+1) =((i+1:Nat):Int)from by rw[a1i zOm zOm];rfl];obtain⟨r,g1,g2,g3,g4,g5⟩:=cl_ge hs hB hgo hL hf m (i+1) (k+v) zOm zOm zOm zOm;exact⟨r,g1,zOm,g3,zOm,zOm⟩
   have:go k=false:=by
    cases hg:go k with
    | false=>rfl
    | true=>exact absurd ((hgo k).1 hg) hk
   rw[this];exact⟨k,rfl,Int.le_refl _,h4,zOm,zOm⟩
  rw[a2e zOm,List.drop_of_length_le h,hs.1];exact⟨k,rfl,Int.le_refl _,h4,zOm,zOm⟩
theorem le_go (k:Int):leB k q=true↔k<q+1:=by unfold leB;rw[decide_eq_true_iff];omega
theorem lt_go (k:Int):ltB k q=true↔k<q:=by unfold ltB;rw[decide_eq_true_iff]
theorem tn_eq (n:Nat)(Φ:K5)(q:Int)(t:Typ):∀m k i,a6A n Φ q t m k i=cl (fun x _=>Φ.Y3 x q) (fun k=>leB k q) t.args m k i
 | 0,k,i=>rfl
 | m+1,k,i=>by simp only[a6A,cl,tn_eq n Φ q t m]
theorem n3_eq (n:Nat)(Φ:P7)(q:Int)(t:Nod):∀m k i,a8s n Φ q t m k i=cl (fun x _=>Y3 n x q) (fun k=>leB k q) t.ts m k i
 | 0,k,i=>rfl
 | m+1,k,i=>by simp only[a8s,cl,n3_eq n Φ q t m]
theorem n9_eq (n:Nat)(Φ:P7)(q:Int)(t:Nod):∀m k i,a8t n Φ q t m k i=cl (fun x _=>Φ.a4Z x q) (fun k=>leB k q) t.l m k i
 | 0,k,i=>rfl
 | m+1,k,i=>by simp only[a8t,cl,n9_eq n Φ q t m]
theorem b5_eq (n:Nat)(Φ:U2)(q:Int)(t:Typ):∀m k i,a7B n Φ q t m k i=cl (fun x k=>Φ.a3L x (w64 (q-k))) (fun k=>ltB k q) t.args m k i
 | 0,k,i=>rfl
 | m+1,k,i=>by simp only[a7B,cl,b5_eq n Φ q t m]
theorem b3_eq (n:Nat)(Φ:R6)(q:Int)(t:Nod):∀m k i,a8Z n Φ q t m k i=cl (fun x k=>a3L n x (w64 (q-k))) (fun k=>ltB k q) t.ts m k i
 | 0,k,i=>rfl
 | m+1,k,i=>by simp only[a8Z,cl,b3_eq n Φ q t m]
theorem b7_eq (n:Nat)(Φ:R6)(q:Int)(t:Nod):∀m k i,a81 n Φ q t m k i=cl (fun x k=>Φ.a5n x (w64 (q-k))) (fun k=>ltB k q) t.l m k i
 | 0,k,i=>rfl
 | m+1,k,i=>by simp only[a81,cl,b7_eq n Φ q t m]
theorem tn_ok {q:Int}(hq:0<=q/\q<=900000):∀(k:Nat) (t:Typ) (n:Nat),t.sz<=k->t.fits->t.sz+1<=n -> ∃r,Y3 n t q=some r/\1<=r/\r<=q+1/\(r<=q ->(t.sz:Int)<=r)
 | 0,t,n,h1,h2,h3=>by have:=t.H8;omega
 | k'+1,t,0,h1,h2,h3=>zOm
 | k'+1,t,n+1,h1,h2,h3=>by
  have hs:=t.H8;obtain⟨f1,f2,f3⟩:=t.b25.1 h2;have hl:=a6b t.args;show ∃r,a5V n (K5.fs n) t q=some r/\_;unfold a5V;obtain⟨r,g1,g2,g3,g4⟩:=cl_ok (f:=fun x _=>(K5.fs n).Y3 x q) (go:=fun k=>leB k q) (l:=t.args) (B:=q+1) (U:=2*q+2) (P:=fun x r=>(x.sz:Int)<=r) ⟨zOm,zOm⟩ le_go f2 (fun x hx k k0 k1=>by
   have:=a2I hx;obtain⟨r,e,e1,e2,e3⟩:=tn_ok hq k' x n zOm (b1d f3 hx) zOm;exact⟨r,e,zOm,zOm,fun h=>e3 zOm⟩) n 0 1 zOm (Nat.zero_le _) zOm zOm
  rw[Int.natCast_zero]at g1;rw[tn_eq,g1,Option.bind_some,a1i zOm zOm];refine⟨_,rfl,zOm,zOm,fun h=>?_⟩;obtain⟨rs,q1,q2,q3⟩:=g4 zOm;rw[List.drop_zero]at q1 q3;have:=c2q (q:=1) b38 b52 t.args rs q1 (fun j x v hx hv=>by have:=q3 j x v hx hv;omega);omega
theorem nd_ok {q:Int}(hq:0<=q/\q<=900000):∀(k:Nat) (x:Nod) (n:Nat),x.sz<=k->x.fits->x.sz+1<=n -> ∃r,a4Z n x q=some r/\1<=r/\r<=q+1/\(r<=q ->(x.sz:Int)<=2*r)
 | 0,x,n,h1,h2,h3=>by have:=x.H8;omega
 | k'+1,x,0,h1,h2,h3=>zOm
 | k'+1,x,n+1,h1,h2,h3=>by
  have hs:=x.H8;obtain⟨f1,f0,f2,f3,f4,f5,f6⟩:=x.b25.1 h2;have hl:=I8 x.l;have hlt:=a6b x.ts;show ∃r,a7A n (P7.fs n) x q=some r/\_;unfold a7A;have e16:(!eqB (16:Int) 0)=true:=by rw[a5N zDe];rfl
  have hd:Int.tdiv (List.length x.s:Int) 16 =((x.s.length/16:Nat):Int):=rfl;have hdb:x.s.length/16<=10000000000000:=zOm;simp only[e16,gdO];rw[hd,a1i (a:=((x.s.length/16:Nat):Int)) zOm zOm,a1i (a:=1+((x.s.length/16:Nat):Int)) zOm zOm];obtain⟨r1,g1,g2,g3,g4⟩:=cl_ok (f:=fun x _=>Y3 n x q) (go:=fun k=>leB k q) (l:=x.ts) (B:=q+1) (U:=10000001000000) (P:=fun x r=>(x.sz:Int)<=r) ⟨zOm,zOm⟩ le_go f2 (fun y hy k k0 k1=>by
   have:=a2I hy;obtain⟨r,e,e1,e2,e3⟩:=tn_ok hq y.sz y n (Nat.le_refl _) (b1d f5 hy) zOm;exact⟨r,e,zOm,zOm,fun h=>e3 zOm⟩) n 0 (1+((x.s.length/16:Nat):Int)) zOm (Nat.zero_le _) zOm zOm
  rw[Int.natCast_zero]at g1;rw[n3_eq,g1,Option.bind_some];obtain⟨c,hc,c1,c2,c3⟩:∃c,cond (leB r1 q) ((Y3 n x.t q).bind fun r5=>some (w64 ((w64 (r1+r5))-1))) (some r1)=some c/\r1<=c/\c<=20000002000000/\(c<=q ->((r1:Int)+x.t.sz)<=c+1):=by
   by_cases h:r1<=q
   ·obtain⟨v,e,e1,e2,e3⟩:=tn_ok hq x.t.sz x.t n (Nat.le_refl _) f4 zOm;rw[b8y h,cond_true,e,Option.bind_some,a1i (a:=r1+v) zOm zOm,a1i zOm zOm];exact⟨_,rfl,zOm,zOm,fun h=>by have:=e3 zOm;omega⟩
   rw[c0q h,cond_false];exact⟨_,rfl,zOm,zOm,fun h=>zOm⟩
  rw[hc,Option.bind_some];obtain⟨r,p1,p2,p3,p4⟩:=cl_ok (f:=fun x _=>(P7.fs n).a4Z x q) (go:=fun k=>leB k q) (l:=x.l) (B:=q+1) (U:=20000002000000) (P:=fun x r=>(x.sz:Int)<=2*r) ⟨zOm,zOm⟩ le_go f3 (fun y hy k k0 k1=>by
   have:=a0L hy;obtain⟨r,e,e1,e2,e3⟩:=nd_ok hq k' y n zOm (b6k f6 hy) zOm;exact⟨r,e,zOm,zOm,fun h=>e3 zOm⟩) n 0 c zOm (Nat.zero_le _) zOm zOm
  rw[Int.natCast_zero]at p1;rw[n9_eq,p1,Option.bind_some,a1i zOm zOm];refine⟨_,rfl,zOm,zOm,fun h=>?_⟩;obtain⟨rs,q1,q2,q3⟩:=g4 zOm;obtain⟨us,u1,u2,u3⟩:=p4 zOm;rw[List.drop_zero]at q1 q3 u1 u3;have a1:=c2q (q:=1) b38 b52 x.ts rs q1 (fun j x v hx hv=>by have:=q3 j x v hx hv;omega);have a2:=c2q (q:=2) c2r b1G x.l us u1 u3;have a3:=c3 zOm;have:=x.t.H8;omega
theorem bk_ok:∀(k:Nat) (t:Typ) (n:Nat) (q:Int),t.sz<=k->t.fits->t.sz+1<=n->1<=q->q<=20001 -> ∃r,a3L n t q=some r/\0<=r/\r<=q+140737488355329/\(r<q->r=bkt t)/\(q<=r->q<=bkt t)
 | 0,t,n,q,h1,h2,h3,h4,h5=>by have:=t.H8;omega
 | k'+1,t,0,q,h1,h2,h3,h4,h5=>zOm
 | k'+1,t,n+1,q,h1,h2,h3,h4,h5=>by
  have hs:=t.H8;obtain⟨f1,f2,f3⟩:=t.b25.1 h2;have hl:=a6b t.args;show ∃r,a8y n (U2.fs n) t q=some r/\_;unfold a8y;have key:∀c:Int,(t.name.length:Int)<=c->c<=140737488355329->c+bkT t.args=bkt t -> ∃r,Option.bind (a7B n (U2.fs n) q t n c 0) (fun k513=>some k513)=some r/\0<=r/\r<=q+140737488355329/\(r<q->r=bkt t)/\(q<=r->q<=bkt t):=fun c c1 c2 c4=>by
   obtain⟨r,g1,g2,g3,g4,g5⟩:=cl_ge (f:=fun x k=>(U2.fs n).a3L x (w64 (q-k))) (go:=fun k=>ltB k q) (l:=t.args) (B:=q) (U:=q+140737488355329) (c:=bkt) (s:=bkT) ⟨rfl,fun _ _=>rfl⟩ ⟨zOm,zOm⟩ lt_go f2 (fun x hx k k0 k1=>by
    have:=a2I hx;obtain⟨r,e,e1,e2,e3,e4⟩:=bk_ok k' x n (q-k) zOm (b1d f3 hx) zOm zOm zOm;exact⟨r,by rw[a1i zOm zOm];exact e,zOm,zOm,zOm,zOm⟩) n 0 c zOm (Nat.zero_le _) zOm zOm
   rw[Int.natCast_zero]at g1;rw[List.drop_zero]at g4 g5;rw[b5_eq,g1,Option.bind_some];exact⟨_,rfl,zOm,zOm,zOm,zOm⟩
  have e:w64 ((t.name.length:Int)+1) =(t.name.length:Int)+1:=a1i zOm zOm;have hb:bkt t=t.name.length+cond (decide (t.kind=0)&&t.args.isEmpty) 0 1+bkT t.args:=by cases t;rfl
  cases hk:eqB t.kind 0<;>rw[a5M]at hk<;>simp only[Bool.not_true,Bool.not_false,cond_true,cond_false,Option.bind_some,e]
  ·exact key _ zOm zOm (by rw[hb,hk];simp only[Bool.false_and,cond_false];omega)
  cases ha:ltB 0 (List.length t.args:Int)<;>simp only[cond_true,cond_false,Option.bind_some]
  ·have h0:=len0 ha;exact key _ zOm zOm (by rw[hb,hk,h0];simp[bkT])
  have h0:t.args.isEmpty=false:=by
   cases h:t.args with
   | nil=>rw[h]at ha;rw[a2e zSi]at ha;cases ha
   | cons y r=>rfl
  exact key _ zOm zOm (by rw[hb,hk,h0];simp only[Bool.and_false,cond_false];omega)
theorem Bk_ok:∀(k:Nat) (x:Nod) (n:Nat) (q:Int),x.sz<=k->x.fits->x.sz+1<=n->1<=q->q<=20001 -> ∃r,a5n n x q=some r/\0<=r/\r<=q+281474976710700/\(r<q->r=bkn x)/\(q<=r->q<=bkn x)
 | 0,x,n,q,h1,h2,h3,h4,h5=>by have:=x.H8;omega
 | k'+1,x,0,q,h1,h2,h3,h4,h5=>zOm
 | k'+1,x,n+1,q,h1,h2,h3,h4,h5=>by
  have hs:=x.H8;obtain⟨f1,f0,f2,f3,f4,f5,f6⟩:=x.b25.1 h2;have hl:=I8 x.l;have hlt:=a6b x.ts;have hb:=a6V x;show ∃r,a8u n (R6.fs n) x q=some r/\_;unfold a8u;obtain⟨v,e,e1,e2,e3,e4⟩:=bk_ok x.t.sz x.t n q (Nat.le_refl _) f4 zOm h4 h5;rw[e,Option.bind_some,a1i zOm zOm];obtain⟨r1,g1,g2,g3,g4,g5⟩:=cl_ge (f:=fun x k=>a3L n x (w64 (q-k))) (go:=fun k=>ltB k q) (l:=x.ts) (B:=q) (U:=q+281474976710700) (c:=bkt) (s:=bkT) ⟨rfl,fun _ _=>rfl⟩ ⟨zOm,zOm⟩ lt_go f2 (fun y hy k k0 k1=>by
   have:=a2I hy;obtain⟨r,e,e1,e2,e3,e4⟩:=bk_ok y.sz y n (q-k) (Nat.le_refl _) (b1d f5 hy) zOm zOm zOm;exact⟨r,by rw[a1i zOm zOm];exact e,zOm,zOm,zOm,zOm⟩) n 0 ((x.s.length:Int)+v) zOm (Nat.zero_le _) zOm zOm
  rw[Int.natCast_zero]at g1;rw[List.drop_zero]at g4 g5;rw[b3_eq,g1,Option.bind_some];obtain⟨r,p1,p2,p3,p4,p5⟩:=cl_ge (f:=fun x k=>(R6.fs n).a5n x (w64 (q-k))) (go:=fun k=>ltB k q) (l:=x.l) (B:=q) (U:=q+281474976710700) (c:=bkn) (s:=bkN) ⟨rfl,fun _ _=>rfl⟩ ⟨zOm,zOm⟩ lt_go f3 (fun y hy k k0 k1=>by
   have:=a0L hy;obtain⟨r,e,e1,e2,e3,e4⟩:=Bk_ok k' y n (q-k) zOm (b6k f6 hy) zOm zOm zOm;exact⟨r,by rw[a1i zOm zOm];exact e,zOm,zOm,zOm,zOm⟩) n 0 r1 zOm (Nat.zero_le _) zOm zOm
  rw[Int.natCast_zero]at p1;rw[List.drop_zero]at p4 p5;rw[b7_eq,p1,Option.bind_some];exact⟨_,rfl,zOm,zOm,zOm,zOm⟩
theorem big_ok (x:Nod)(n:Nat)(hf:x.fits)(hn:x.sz+1<=n):∃b,b1g n x=some b/\(b=false->bkn x<=20000/\x.sz<=12000):=by
 obtain⟨r,g1,g2,g3,g4⟩:=nd_ok (q:=6001) ⟨zOm,zOm⟩ x.sz x n (Nat.le_refl _) hf hn;obtain⟨v,e1,e2,e3,e4⟩:=Bk_ok x.sz x n 20001 (Nat.le_refl _) hf hn zOm zOm;unfold b1g;rw[g1,Option.bind_some,e1,Option.bind_some];by_cases h:(6000:Int)<r
 ·rw[a04 h,cond_true];exact⟨_,rfl,fun h=>by cases h⟩
 rw[a2e h,cond_false];refine⟨_,rfl,fun h2=>?_⟩;have h2:¬(20000:Int)<v:=by
  intro h3;rw[a04 h3]at h2;cases h2
 have:=g4 zOm;have:=e4.1 zOm;exact⟨zOm,zOm⟩
end Go.Proofs.YtimgnjbjbdgmaaaGreatDoor
namespace Go.Proofs.YtimgnjbjbdgmaaaGreatDoor
open Go Go.Vm
variable {a4 c3:Int} {l2:List Tok} {n1:Nod} {rr a3n:Str}
theorem c6x (h:b2q a3n=some (l2,c3,a4)):E env (.call 41 [.str a3n]) []=some (.ret (.tuple [.sl u7 l2,.agg [.i c3,.i a4]]) []):=by
 unfold b2q at h;cases h;exact c4J rfl (Sc.b2t _).1
theorem c8B (h:b0b n1=some rr):E env (.call 11 [.agg (cN n1)]) []=some (.ret (.str rr) []):=by
 unfold b0b at h;split at h
 ·rename_i he;cases h;exact he
 cases h
theorem c8D (h:b3r n1=some rr):E env (.call 16 [.agg (cN n1)]) []=some (.ret (.str rr) []):=by
 unfold b3r at h;split at h
 ·rename_i he;cases h;exact he
 cases h
theorem c4y (h:b5R a3n=some (l2,c3,a4)):E env (.call 34 [.str a3n]) []=some (.ret (.tuple [.sl u7 l2,.agg [.i c3,.i a4]]) []):=by
 unfold b5R at h;cases h;exact c4J rfl (Sc.b2t _).1
theorem atoi_ok {s1:Str}{n2:Int}(h:atoi s1=some n2):E env (.call 221 [.str s1]) []=some (.ret (.tuple [.i n2,.nilIface]) []):=by
 unfold atoi at h;split at h
 ·rename_i hb;cases h;exact a7f rfl (by simp only[c2R,hb])
 cases h
def b9p (a3n:Str):List Tok×Int×Int->Out |(l2,c3,a4)=>.ret (.tuple [.sl u7 l2,.agg [.i c3,.i a4]]) []
instance {a3n:Str}:OkF env (b2q a3n) 41 [.str a3n] [] (b9p a3n):=⟨fun{r} h=>by
 obtain⟨l2,c3,a4⟩:=r;exact c6x h⟩
def b9O (n1:Nod):Str->Out|rr=>.ret (.str rr) []
instance {n1:Nod}:OkF env (b0b n1) 11 [.agg (cN n1)] [] (b9O n1):=⟨fun{r} h=>by
 obtain rr:=r;exact c8B h⟩
def b9P (n1:Nod):Str->Out|rr=>.ret (.str rr) []
instance {n1:Nod}:OkF env (b3r n1) 16 [.agg (cN n1)] [] (b9P n1):=⟨fun{r} h=>by
 obtain rr:=r;exact c8D h⟩
def b7r (a3n:Str):List Tok×Int×Int->Out |(l2,c3,a4)=>.ret (.tuple [.sl u7 l2,.agg [.i c3,.i a4]]) []
instance {a3n:Str}:OkF env (b5R a3n) 34 [.str a3n] [] (b7r a3n):=⟨fun{r} h=>by
 obtain⟨l2,c3,a4⟩:=r;exact c4y h⟩
def c2S (s1:Str):Int->Out|n2=>.ret (.tuple [.i n2,.nilIface]) []
instance {s1:Str}:OkF env (atoi s1) 221 [.str s1] [] (c2S s1):=⟨fun{r} h=>by
 obtain n2:=r;exact atoi_ok h⟩
end Go.Proofs.YtimgnjbjbdgmaaaGreatDoor
