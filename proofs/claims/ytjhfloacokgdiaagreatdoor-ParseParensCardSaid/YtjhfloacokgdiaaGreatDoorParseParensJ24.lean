/- Texts of ParseParens, joined. -/
import Derived.Test.YtjhfloacokgdiaaGreatDoorParseParensJ23
set_option maxRecDepth 100000
set_option maxHeartbeats 20000000
set_option linter.unusedSimpArgs false
set_option linter.unusedVariables false
set_option linter.unusedSectionVars false
namespace Go.Proofs.YtjhfloacokgdiaaGreatDoor
open Go Go.Vm
theorem eqB_i {a b:Int}(h:eqB a b=true):a=b:=by simpa [eqB]using h
theorem b6Q {a b:Str}(h:eqS a b=true):a=b:=by simpa [eqS]using h
def kt (l:List Tok):List WK:=l.map fun t=>(t.kind,t.text)
theorem b5q {l:List Tok}{k:Nat}{p:WK}{r:List WK}(h:kt (l.drop k)=p::r):k+1<=l.length/\(a1h l k).kind=p.1/\(a1h l k).text=p.2/\kt (l.drop (k+1))=r:=by
 have hk:k<l.length:=by
  rcases Nat.lt_or_ge k l.length with h1|h1
  ·exact h1
  ·rw[List.drop_eq_nil_of_le h1]at h;cases h
 rw[List.drop_eq_getElem_cons hk]at h
 simp only[kt,List.map_cons,List.cons.injEq]at h
 obtain⟨h1,h2⟩:=h
 unfold a1h
 rw[List.getElem?_eq_getElem hk]
 exact⟨hk,by rw[<-h1];rfl,by rw[<-h1];rfl,h2⟩
theorem Q6 {l:List Tok}{k:Nat}{a b:List WK}(h:kt (l.drop k)=a++b)(hk:k<=l.length):k+a.length<=l.length:=by
 have:=congrArg List.length h
 simp only[kt,List.length_map,List.length_drop,List.length_append]at this
 omega
theorem M5 {l:List Tok}{k:Nat}{a b:List WK}(h:kt (l.drop k)=a++b):kt (l.drop (k+a.length))=b:=by
 have e:kt (l.drop (k+a.length)) =(kt (l.drop k)).drop a.length:=by simp[kt,List.drop_drop]
 rw[e,h,List.drop_left]
def nx (r:List WK)(kd:Int)(s:Str):Bool:=match r with
 | []=>false
 | p::_=>decide (p.1=kd)&&decide (p.2=s)
def nk (r:List WK)(kd:Int):Bool:=match r with
 | []=>false
 | p::_=>decide (p.1=kd)
theorem a0e {l:List Tok}{k:Nat}{r:List WK}(h:kt (l.drop k)=r)(kd:Int):isK l kd k=nk r kd:=by
 unfold isK
 cases r with
 | nil =>
  have:l.length<=k:=by simpa [kt]using h
  rw[decide_eq_false (by omega)];rfl
 | cons p r =>
  obtain⟨h1,h2,_⟩:=b5q h
  rw[decide_eq_true (by omega),h2,a5Y];rfl
theorem a0o {l:List Tok}{k:Nat}{r:List WK}(h:kt (l.drop k)=r)(kd:Int)(s:Str):isT l kd s k=nx r kd s:=by
 unfold isT
 rw[a0e h]
 cases r with
 | nil=>rfl
 | cons p r =>
  obtain⟨_,_,h3,_⟩:=b5q h
  rw[h3,a6v];rfl
theorem isF {l:List Tok}{k:Nat}{r:List WK}(h:kt (l.drop k)=r){kd:Int}{s:Str}(hn:nx r kd s=false):isT l kd s k=false:=by rw[a0o h,hn]
theorem isY {l:List Tok}{k:Nat}{r:List WK}(h:kt (l.drop k)=r){kd:Int}{s:Str}(hn:nx r kd s=true):isT l kd s k=true:=by rw[a0o h,hn]
theorem ikF {l:List Tok}{k:Nat}{r:List WK}(h:kt (l.drop k)=r){kd:Int}(hn:nk r kd=false):isK l kd k=false:=by rw[a0e h,hn]
theorem ikY {l:List Tok}{k:Nat}{r:List WK}(h:kt (l.drop k)=r){kd:Int}(hn:nk r kd=true):isK l kd k=true:=by rw[a0e h,hn]
theorem a0V {s:Str}{kd:Int}{r:List WK}:nx ((kd,s)::r) kd s=true:=by simp[nx]
theorem Q0 {l:List Tok}(hl:l.length<=3000){k:Nat}(hk:k<=l.length){size op:Int}:F7 op l k size=some (M8 l size k):=by
 unfold F7
 rw[b8b hl hk];rfl
theorem a2I {l:List Tok}{k:Nat}{p:WK}{r:List WK}(h:kt (l.drop k)=p::r):(a1h l k).text=p.2:=(b5q h).2.2.1
theorem N9 {l:List Tok}{k:Nat}{p:WK}{r:List WK}(h:kt (l.drop k)=p::r):kt (l.drop (k+1))=r:=(b5q h).2.2.2
theorem J7 {l:List Tok}{k:Nat}{p:WK}{r:List WK}(h:kt (l.drop k)=p::r):k+1<=l.length:=(b5q h).1
def cm (vs:List (List WK)):List WK:=vs.flatMap fun w=>(8,[44])::w
theorem a3B (w:List WK)(r:List (List WK)):cm (w::r) =(8,[44]) ::(w++cm r):=by simp[cm]
theorem a9I (w:List WK):∀r:List (List WK),jo (w::r)=w++cm r
 | []=>by simp[jo,cm]
 | u::r=>by
  rw[jo,a9I u r,a3B]
theorem b96 {r:List (List WK)}{rest:List WK}{kd:Int}{s:Str}(h:nx rest kd s=false)(hs:nx [(8,[44])] kd s=false):nx (cm r++rest) kd s=false:=by
 cases r with
 | nil=>exact h
 | cons t r=>rw[a3B];exact hs
section
variable {V:Int->Str->Prop}
def dots (b:Typ)(ds:List Str):Typ:=ds.foldl (fun t s=>⟨8,s,0,[t]⟩) b
def fd (ds:List Str):List WK:=ds.flatMap fun d=>[(8,[46]),(2,d)]
theorem b4A (d:Str)(ds:List Str):fd (d::ds) =(8,[46]) ::(2,d)::fd ds:=by simp[fd]
theorem b79 {b:Bool}{t:Typ}(h:GT V b t):b=true -> ∃s args ds,(∀x∈args,GT V false x)/\t=dots (a4H s args) ds:=by
 induction h with
 | @base s a h1 h2=>exact fun _=>⟨s,a,[],h2,rfl⟩
 | @dot s t h1 h2 ih =>
  intro _
  obtain⟨u,args,ds,g1,rfl⟩:=ih rfl
  exact⟨u,args,ds++[s],g1,by simp[dots,List.foldl_append]⟩
 | _=>intro h;cases h
theorem b4Q (s:Str)(a:List Typ):W (a4H s a) =(2,s)::an (WW a):=by
 rw[b4S]
 unfold a4H kindOf
 simp only
 cases h0:eqB (List.length a:Int) 0 with
 | true =>
  have ha:a=[]:=List.length_eq_zero_iff.1 (by have:=eqB_i h0;omega)
  subst ha
  have h1:eqB (List.length ([]:List Typ):Int) 1=false:=a1G (by simp)
  rw[h1]
  cases i1:eqS s [73,110,116]with
  | true=>rw[b6Q i1];rfl
  | false =>
   cases i2:eqS s [66,111,111,108]with
   | true=>rw[b6Q i2];rfl
   | false =>
    cases i3:eqS s [84,101,120,116]with
    | true=>rw[b6Q i3];rfl
    | false =>
     cases i4:eqS s [85,110,105,116]with
     | true=>rw[b6Q i4];rfl
     | false =>
      simp only[Bool.true_and,Bool.false_and,cond_false]
      rw[a0C (a:=6) rfl];rfl
 | false =>
  simp only[Bool.false_and,cond_false]
  cases h1:eqB (List.length a:Int) 1 with
  | true =>
   simp only[Bool.true_and]
   cases i5:eqS s [65,114,114,97,121]with
   | true=>rw[b6Q i5];rfl
   | false =>
    cases i6:eqS s [87,101,97,107]with
    | true=>rw[b6Q i6];rfl
    | false =>
     simp only[cond_false]
     rw[a0C (a:=6) rfl];rfl
  | false =>
   simp only[Bool.false_and,cond_false]
   rw[a0C (a:=6) rfl];rfl
theorem b4R:∀(ds:List Str) (b:Typ),W (dots b ds)=W b++fd ds
 | [],b=>by simp[dots,fd]
 | d::ds,b=>by
  have ih:=b4R ds ⟨8,d,0,[b]⟩
  have e:W ⟨8,d,0,[b]⟩=W b++[(8,[46]),(2,d)]:=by rw[b4S];simp[wk,WW,jo]
  show W (dots ⟨8,d,0,[b]⟩ ds)=_
  rw[ih,e,b4A];simp
theorem b7W:∀(ds:List Str) (b:Typ),(dots b ds).sz=b.sz+ds.length
 | [],b=>rfl
 | d::ds,b=>by
  have ih:=b7W ds ⟨8,d,0,[b]⟩
  show(dots ⟨8,d,0,[b]⟩ ds).sz=_
  rw[ih,Typ.a3w];simp only[c4h,List.length_cons];omega
theorem c29 (s:Str)(a:List Typ):(a4H s a).sz=1+szT a:=Typ.a3w _
theorem W_func (args:List Typ)(r:Typ):W ⟨10,[],0,args++[r]⟩ =(8,[40]) ::(jo (WW args) ++((8,[41]) ::(8,[45,62])::W r)):=by
 rw[b4S]
 have e:WW (args++[r])=WW args++[W r]:=by rw[a4V,a4V,List.map_append];rfl
 show wk 10 [] (WW (args++[r]))=_
 rw[e]
 have e1:(WW args++[W r]).length-1 =(WW args).length:=by simp
 unfold wk
 simp only[e1,List.take_left',List.drop_left',List.take_left,List.drop_left]
 rfl
theorem nd_fd {ds:List Str}{rest:List WK}(h:nx rest 8 [60]=false):nx (fd ds++rest) 8 [60]=false:=by
 cases ds with
 | nil=>exact h
 | cons d r=>rw[b4A];rfl
def NT (b:Bool)(rest:List WK):Prop:=nx rest 8 [60]=false/\(nx rest 8 [46]=false∨b=true /\ ∃s q,rest =(8,[46]) ::(1,s)::q)
def RdT (n:Nat)(t:Typ):Prop:=∀ ⦃l:List Tok⦄ ⦃size:Int⦄ ⦃k:Nat⦄ ⦃rest:List WK⦄,l.length<=3000->k<=l.length->kt (l.drop k)=W t++rest->NT false rest ->(o5.fs n).G7 l k size=some (.ok (t,((k+(W t).length:Nat):Int)))
theorem NT.cm {r:List Typ}{rest:List WK}(h:NT false rest):NT false (cm (WW r)++rest):=by
 refine⟨b96 h.1 rfl,.inl (b96 ?_ rfl)⟩
 rcases h.2 with h |⟨h,_⟩
 ·exact h
 ·cases h
theorem NT.f {rest:List WK}(h:NT false rest):nx rest 8 [46]=false:=by
 rcases h.2 with h |⟨h,_⟩
 ·exact h
 ·cases h
theorem tail2 {l:List Tok}{size:Int}(hl:l.length<=3000)(n p:Nat):∀(r:List Typ) (m:Nat) (args:List Typ) (k:Nat) (rest:List WK),(∀x∈r,RdT p x)->k<=l.length->kt (l.drop k)=cm (WW r)++rest->NT false rest->nx rest 8 [44]=false->r.length<m->args.length+r.length<=90000 ->
  U9 n (o5.fs p) size l m args k=some (.brk (args++r,((k+(cm (WW r)).length:Nat):Int)))
 | r,0,args,k,rest,_,_,_,_,_,h,_=>absurd h (by omega)
 | [],m+1,args,k,rest,_,hk,h,h1,h2,_,_=>by
  simp only[U9]
  rw[I6 hl hk,isF h h2]
  simp[cm,WW]
 | t::r,m+1,args,k,rest,hr,hk,h,h1,h2,hm,ha=>by
  rw[WW,a3B,List.cons_append,List.append_assoc]at h
  have hk1:=J7 h
  have h3:=N9 h
  simp only[U9]
  rw[I6 hl hk,isY h a0V]
  simp only[Option.bind_some,cond_true]
  rw[hr t (by simp) hl hk1 h3 h1.cm]
  simp only[p8]
  simp only[List.length_cons]at hm ha
  rw[a1z (by omega) (by simp) (by omega)]
  simp only[Option.bind_some]
  rw[tail2 hl n p r m (args++[t]) (k+1+(W t).length) rest (fun x hx=>hr x (by simp[hx])) (Q6 h3 hk1) (M5 h3) h1 h2 (by omega) (by simp only[List.length_append,List.length_cons,List.length_nil];omega),WW,a3B]
  simp only[List.length_cons,List.length_append,List.append_assoc,List.cons_append,List.nil_append]
  congr 3
  omega
theorem l5_eq (n:Nat)(Φ:o5)(size:Int)(l:List Tok):∀m args k,a0i n Φ size l m args k=U9 n Φ size l m args k
 | 0,args,k=>rfl
 | m+1,args,k=>by
  unfold a0i U9
  simp only[l5_eq n Φ size l m]
theorem dots2 {l:List Tok}{size:Int}(hl:l.length<=3000){Φ:o5}(n:Nat)(b:Bool):∀(ds:List Str) (m:Nat) (t:Typ) (k:Nat) (rest:List WK),k<=l.length->kt (l.drop k)=fd ds++rest->NT b rest->ds.length<m ->
  W9 n Φ b size l m k t=some (.brk (((k+(fd ds).length:Nat):Int),dots t ds))
 | ds,0,t,k,rest,_,_,_,h=>absurd h (by omega)
 | [],m+1,t,k,rest,hk,h,h1,_=>by
  simp only[W9]
  rcases h1.2 with h2 |⟨rfl,s,q,h2⟩
  ·rw[a1s hl hk,isF h h2]
   simp[fd,dots]
  ·rw[h2]at h
   have h:kt (l.drop k) =(8,[46]) ::(1,s)::q:=h
   rw[a1s hl hk,isY h a0V,is1_v hl hk,ikY (N9 h) rfl]
   simp[fd,dots]
 | d::ds,m+1,t,k,rest,hk,h,h1,hm=>by
  rw[b4A,List.cons_append,List.cons_append]at h
  have h3:=N9 h
  have hk1:=J7 h
  have hk2:=J7 h3
  have h4:=N9 h3
  simp only[W9]
  rw[a1s hl hk,isY h a0V,is1_v hl hk,ikF h3 rfl]
  have e:(Option.bind (α:=Bool) ((some true).bind fun r24=>cond r24 (cond b ((some false).bind fun r25=>some (!r25)) (some true)) (some false)) fun x=>some x)=some true:=by cases b<;>rfl
  have e2:((some true).bind fun r24=>cond r24 (cond b ((some false).bind fun r25=>some (!r25)) (some true)) (some false))=some true:=by cases b<;>rfl
  rw[e2]
  simp only[Option.bind_some,cond_true]
  rw[F9 (by omega),b9p hl hk1,ikY h3 rfl]
  simp only[cond_true,p8,a2I h3]
  simp only[List.length_cons]at hm
  rw[F9 (by omega),dots2 hl n b ds m ⟨8,d,0,[t]⟩ (k+1+1) rest hk2 h4 h1 (by omega),b4A]
  simp only[List.length_cons,dots,List.foldl_cons]
  congr 3
  omega
theorem path2 {l:List Tok} {size:Int} (hl:l.length <= 3000) {n p:Nat} {b:Bool} {s:Str} {args:List Typ} {ds:List Str} (hn:args.length + ds.length < n) (IH:∀ x ∈ args,RdT p x) {k:Nat} {rest:List WK} (hk:k <= l.length) (ha:args.length <= 40000)
    (h:kt (l.drop k)=W (dots (a4H s args) ds)++rest) (hr:NT b rest):Z7 n (o5.fs p) b l k size=some (.ok (dots (a4H s args) ds,((k+(W (dots (a4H s args) ds)).length:Nat):Int))):=by
  rw[b4R,b4Q,List.cons_append,List.cons_append]at h
  have hk1:=J7 h
  have h1:=N9 h
  have hl2:(W (dots (a4H s args) ds)).length=1+(an (WW args)).length+(fd ds).length:=by rw[b4R,b4Q];simp;omega
  unfold Z7
  rw[b9p hl hk,ikY h rfl,cond_true,a2I h,F9 (by omega)]
  simp only[p8]
  have fin:∀ (q:Nat),q <= l.length -> kt (l.drop q) = fd ds ++ rest -> q = k + 1 + (an (WW args)).length ->
      ((a4K s args).bind fun r23=>a1A (α:=Int×Typ) (W9 n (o5.fs p) b size l n q r23) fun(at549,n550)=>some (.ok (n550,at549)))=some (.ok (dots (a4H s args) ds,((k+(W (dots (a4H s args) ds)).length:Nat):Int)):Rs (Typ×Int) (Int×Int)):=by
    intro q g1 g2 g3
    rw[b5C,Option.bind_some,dots2 hl n b ds n (a4H s args) q rest g1 g2 hr (by omega),hl2,g3]
    simp only[a1A]
    congr 3
    omega
  cases args with
  | nil =>
    have ea:an (WW ([]:List Typ))=[]:=by simp[WW,an]
    rw[ea]at h1 fin
    have h1:kt (l.drop (k+1))=fd ds++rest:=h1
    rw[I6 hl hk1,isF h1 (nd_fd hr.1)]
    simp only[Option.bind_some,cond_false,a1A]
    exact fin (k+1) hk1 h1 rfl
  | cons t r =>
    have ea:an (WW (t::r)) =(8,[60]) ::(W t++cm (WW r)++[(8,[62])]):=by
      rw[WW,<-a9I];rfl
    rw[ea]at h1 fin
    rw[List.cons_append]at h1
    rw[I6 hl hk1,isY h1 a0V]
    simp only[Option.bind_some,cond_true]
    have hk2:=J7 h1
    have h2:=N9 h1
    have h2:kt (l.drop (k+1+1))=W t ++(cm (WW r) ++((8,[62]) ::(fd ds++rest))):=by rw[h2];simp
    have nd1:NT false ((8,[62]) ::(fd ds++rest)):=⟨rfl,.inl rfl⟩
    rw[IH t (by simp) hl hk2 h2 nd1.cm]
    simp only[p8]
    rw[a1z (by simp) (by simp) (by omega)]
    simp only[Option.bind_some,List.nil_append,l5_eq]
    have h3:=M5 h2
    have h3k:=Q6 h2 hk2
    simp only[List.length_cons]at ha hn
    rw[tail2 hl n p r n [t] _ _ (fun x hx=>IH x (by simp[hx])) h3k h3 nd1 rfl (by omega) (by simp only[List.length_cons,List.length_nil];omega)]
    simp only[a8o]
    have h4:=M5 h3
    have h4k:=Q6 h3 h3k
    rw[Y2 hl h4k,isY h4 a0V]
    simp only[p8,a1A,cond_true]
    exact fin _ (J7 h4) (N9 h4) (by simp only[List.length_cons,List.length_append,List.length_nil];omega)
theorem W_hd {t:Typ}{b:Bool}(h:GT V b t):∃p r,W t=p::r/\(p.1=2∨b=false/\(p =(9,[97,110,121])∨p =(8,[40]))):=by
 have key:∀{t},GT V true t -> ∃p r,W t=p::r/\p.1=2:=fun h=>by
  obtain⟨s,args,ds,_,rfl⟩:=b79 h rfl
  rw[b4R,b4Q];exact⟨_,_,rfl,rfl⟩
 cases h with
 | base h1 h2=>obtain⟨p,r,e,h⟩:=key (.base h1 h2);exact⟨p,r,e,.inl h⟩
 | dot h1 h2=>obtain⟨p,r,e,h⟩:=key (.dot h1 h2);exact⟨p,r,e,.inl h⟩
 | path h=>obtain⟨p,r,e,h⟩:=key h;exact⟨p,r,e,.inl h⟩
 | any h=>rw[b4S];exact⟨_,_,rfl,.inr ⟨rfl,.inl rfl⟩⟩
 | func g h=>rw[b4S];exact⟨_,_,rfl,.inr ⟨rfl,.inr rfl⟩⟩
theorem rd:∀(N:Nat) (t:Typ) (n:Nat),t.sz<=N->GT V false t->t.sz<=40000->2*t.sz+6<=n->RdT n t
  | 0,t,n,h,_,_,_=>by have:=t.b6n;omega
  | N+1,t,n,hN,hw,h4,hn=>by
    obtain⟨a,rfl⟩:∃q,n=q+2:=⟨n-2,by omega⟩
    intro l size k rest hl hk hkt hr
    show a0x (a+1) (o5.fs (a+1)) l k size=_
    unfold a0x
    cases hw with
    | path hp =>
      obtain⟨s,args,ds,g,rfl⟩:=b79 hp rfl
      have hz:=b7W ds (a4H s args)
      have hz2:=c29 s args
      have hal:=a5T args
      have hd0:=hkt
      rw[b4R,b4Q,List.cons_append,List.cons_append]at hd0
      rw[a0U hl hk,isF hd0 rfl]
      simp only[Option.bind_some,cond_false]
      rw[I6 hl hk,isF hd0 rfl]
      simp only[Option.bind_some,Bool.not_false,cond_true,cond_false]
      have hpa:∀q:Int,(o5.fs (a+1)).P6 false l q size=Z7 a (o5.fs a) false l q size:=fun _=>rfl
      rw[hpa,path2 hl (by omega) (fun x hx=>rd N x a (by have:=a3p hx;omega) (g x hx) (by have:=a3p hx;omega) (by have:=a3p hx;omega)) hk (by omega) hkt hr]
      rfl
    | @any s hc =>
      have e:W ⟨9,s,0,[]⟩=[(9,[97,110,121]),(2,s)]:=by rw[b4S];rfl
      rw[e]at hkt
      have hkt:kt (l.drop k) =(9,[97,110,121]) ::(2,s)::rest:=hkt
      rw[a0U hl hk,isY hkt a0V]
      simp only[Option.bind_some,cond_true]
      rw[b9p hl (J7 hkt),ikY (N9 hkt) rfl,cond_true,a2I (N9 hkt),F9 (by omega),e]
      rfl
    | @func args r g hr2 =>
      have hz:=Typ.a3w ⟨10,[],0,args++[r]⟩
      simp only[a9y,c4h]at hz
      have hal:=a5T args
      rw[W_func]at hkt ⊢
      have h0:=hkt
      rw[List.cons_append]at h0
      rw[a0U hl hk,isF h0 rfl]
      simp only[Option.bind_some,cond_false]
      rw[I6 hl hk,isY h0 a0V]
      simp only[Option.bind_some,Bool.not_true,cond_false,cond_true]
      have hk1:=J7 h0
      have h1:=N9 h0
      have hrR:RdT (a+1) r:=rd N r (a+1) (by omega) hr2 (by omega) (by omega)
      have fin:∀ (q:Nat),q <= l.length -> kt (l.drop q) = (8,[45,62]) :: (W r ++ rest) -> q = k + 1 + (jo (WW args)).length + 1 ->
          (p8 (D5 [45,62] l q size) (fun at31=>p8 ((o5.fs (a+1)).G7 l at31 size) (fun(r32,at33)=>(app 56 args ([r32]:List Typ)).bind fun l34=>some (.ok ((⟨10,[],0,l34⟩:Typ),at33))) fun(at35,at36)=>some (.pan (at35,at36))) fun(at37,at38)=>some (.pan (at37,at38)))=some (.ok ((⟨10,[],0,args++[r]⟩:Typ),((k+((8,[40]) ::(jo (WW args) ++((8,[41]) ::(8,[45,62])::W r)):List WK).length:Nat):Int)):Rs (Typ×Int) (Int×Int)):=by
        intro q g1 g2 g3
        rw[Y2 hl g1,isY g2 a0V]
        simp only[p8,cond_true]
        rw[hrR hl (J7 g2) (N9 g2) hr]
        simp only
        rw[a1z (by omega) (by simp) (by omega),Option.bind_some,g3]
        simp only[List.length_cons,List.length_append]
        congr 3
        omega
      cases args with
      | nil =>
        have h1:kt (l.drop (k+1)) =(8,[41]) ::((8,[45,62]) ::(W r++rest)):=by rw[h1];simp[WW,jo]
        rw[I6 hl hk1,isY h1 a0V]
        simp only[a1A,Option.bind_some,Bool.not_true,cond_false,cond_true]
        exact fin (k+1+1) (J7 h1) (N9 h1) (by simp[WW,jo])
      | cons t r0 =>
        have ej:jo (WW (t::r0))=W t++cm (WW r0):=by rw[WW];exact a9I _ _
        rw[ej]at h1 fin ⊢
        have h1:kt (l.drop (k+1))=W t ++(cm (WW r0) ++((8,[41]) ::(8,[45,62]) ::(W r++rest))):=by rw[h1];simp
        obtain⟨p,r1,hp1,hp2⟩:=W_hd (g t (by simp))
        have hf:nx (W t ++(cm (WW r0) ++((8,[41]) ::(8,[45,62]) ::(W r++rest)))) 8 [41]=false:=by
          rw[hp1]
          rcases hp2 with h |⟨_,rfl|rfl⟩
          · simp only[List.cons_append,nx];rw[h];rfl
          · rfl
          · rfl
        rw[I6 hl hk1,isF h1 hf]
        simp only[Option.bind_some,Bool.not_false,cond_true,cond_false]
        have IH:∀x∈t::r0,RdT (a+1) x:=fun x hx=>rd N x (a+1) (by have:=a3p hx;omega) (g x hx) (by have:=a3p hx;omega) (by have:=a3p hx;omega)
        have nd1:NT false ((8,[41]) ::(8,[45,62]) ::(W r++rest)):=⟨rfl,.inl rfl⟩
        rw[IH t (by simp) hl hk1 h1 nd1.cm]
        simp only[p8]
        rw[a1z (by simp) (by simp) (by omega)]
        simp only[Option.bind_some,List.nil_append]
        have h3:=M5 h1
        have h3k:=Q6 h1 hk1
        simp only[List.length_cons]at hal
        rw[tail2 hl (a+1) (a+1) r0 (a+1) [t] _ _ (fun x hx=>IH x (by simp[hx])) h3k h3 nd1 rfl (by omega) (by simp only[List.length_cons,List.length_nil];omega)]
        simp only[a8o]
        have h4:=M5 h3
        have h4k:=Q6 h3 h3k
        rw[Y2 hl h4k,isY h4 a0V]
        simp only[p8,a1A,cond_true]
        exact fin _ (J7 h4) (N9 h4) (by simp only[List.length_append];omega)
theorem b2p {l:List Tok}{size:Int}{n k:Nat}{rest:List WK}{t:Typ}(ht:GT V false t)(hz:t.sz<=40000)(hn:200000<=n)(hl:l.length<=3000)(hk:k<=l.length)(h:kt (l.drop k)=W t++rest)(hr:NT false rest):G7 n l k size=some (.ok (t,((k+(W t).length:Nat):Int))):=rd t.sz t n (Nat.le_refl _) ht hz (by omega) hl hk h hr
theorem b8J {l:List Tok}{size:Int}{n k:Nat}{rest:List WK}{t:Typ}(ht:GT V true t)(hz:t.sz<=40000)(hn:200000<=n)(hl:l.length<=3000)(hk:k<=l.length)(h:kt (l.drop k)=W t++rest)(hr:NT true rest):P6 n true l k size=some (.ok (t,((k+(W t).length:Nat):Int))):=by
 obtain⟨s,args,ds,g,rfl⟩:=b79 ht rfl
 have hz1:=b7W ds (a4H s args)
 have hz2:=c29 s args
 have hal:=a5T args
 obtain⟨a,rfl⟩:∃q,n=q+1:=⟨n-1,by omega⟩
 exact path2 hl (by omega) (fun x hx=>rd x.sz x a (Nat.le_refl _) (g x hx) (by have:=a3p hx;omega) (by have:=a3p hx;omega)) hk (by omega) h hr
end
end Go.Proofs.YtjhfloacokgdiaaGreatDoor
namespace Go.Proofs.YtjhfloacokgdiaaGreatDoor
open Go Go.Vm
abbrev PF:=d9
theorem a2M {a kd:Int}{b:Str}{r:List WK}:nk ((a,b)::r) kd=decide (a=kd):=rfl
theorem a3u {a kd:Int}{b s:Str}{r:List WK}:nx ((a,b)::r) kd s =(decide (a=kd)&&decide (b=s)):=rfl
theorem BC:(∀b:Bool,(false&&b)=false)/\(∀b:Bool,(true&&b)=b)/\decide True=true/\decide False=false/\(∀(a:Str),decide (a=a)=true):=⟨fun _=>rfl,fun _=>rfl,rfl,rfl,fun _=>by simp⟩
def NL (r:List WK):Prop:=nx r 8 [40]=false
def NP (r:List WK):Prop:=nx r 8 [46]=false/\nx r 8 [40]=false
def NE (r:List WK):Prop:=NP r /\ ∀s,OP s->nx r 8 s=false
def T1 (_:List WK):Prop:=True
def RX (r:Nat)(P:List WK->Prop)(F:PF->List Tok->Int->Int->Option (Rs (Nod×Int) (l7×Int)))(x:Nod)(w:List WK):Prop:=∀ ⦃l:List Tok⦄ ⦃size:Int⦄ ⦃n k:Nat⦄ ⦃rest:List WK⦄,l.length<=3000->k<=l.length->kt (l.drop k)=w++rest->P rest->200000+40*(l.length-k)+r<=n -> ∃y,F (d9.fs n) l k size=some (.ok (y,((k+w.length:Nat):Int)))/\y.er=x.er
abbrev RE:=RX 20 NE d9.C9
abbrev RU:=RX 13 NP d9.J3
abbrev RA:=RX 10 T1 d9.I4
abbrev RAN:=RX 10 NL d9.I4
def RL (x:Nod)(w:List WK):Prop:=∀ ⦃l:List Tok⦄ ⦃size:Int⦄ ⦃n k:Nat⦄ ⦃rest:List WK⦄,l.length<=3000->k<=l.length->kt (l.drop k)=w++rest->NL rest->200000+40*(l.length-k)+11<=n -> ∃y b m n',n=n'+1/\l.length<m+(k+w.length)/\(d9.O4 (d9.fs n) l k size=H8 n' (d9.fs n') size l m b ((k+w.length:Nat):Int) y)/\y.er=x.er
theorem RA.n {x:Nod}{w:List WK}(h:RA x w):RAN x w:=fun l size n k rest hl hk K hr hn=>h hl hk K trivial hn
theorem rl_of {x:Nod}{w:List WK}(h:RAN x w)(hw:w ≠ []):RL x w:=by
 intro l size n k rest hl hk K hr hn
 obtain⟨n,rfl⟩:∃q,n=q+1:=⟨n-1,by omega⟩
 obtain⟨y,e,he⟩:=h hl hk K hr (show _<=n by omega) (size:=size)
 have hw:=List.length_pos_iff.2 hw
 refine⟨y,isK l 1 k,n,n,rfl,by omega,?_,he⟩
 show O6 n (d9.fs n) l k size=_
 unfold O6
 rw[a0n hl hk,Option.bind_some]
 have e:(d9.fs n).I4 l k size=_:=e
 rw[e];rfl
theorem er5 {o:Int}{s:Str}{n:Int}{t:Typ}{ts:List Typ}{l l':List Nod}{a b:Int}(h:ers l=ers l'):(⟨o,s,n,t,ts,l,a⟩:Nod).er =(⟨o,s,n,t,ts,l',b⟩:Nod).er:=er_mk h
theorem a9M {x y:Nod}(h:x.er=y.er):ers [x]=ers [y]:=a0T h rfl
theorem ers2 {x y x' y':Nod}(h:x.er=x'.er)(g:y.er=y'.er):ers [x,y]=ers [x',y']:=a0T h (a9M g)
theorem rl_field {x:Nod}{w:List WK}{s:Str}{a:Int}(h:RL x w):RL ⟨55,s,0,zT,[],[x],a⟩ (w++[(8,[46]),(1,s)]):=by
 intro l size n k rest hl hk K hr hn
 rw[List.append_assoc]at K
 obtain⟨y,b,m,n',rfl,hm,e,he⟩:=h hl hk K (show NL ((8,[46]) ::(1,s)::rest)from rfl) hn (size:=size)
 have K1:kt (l.drop (k+w.length)) =(8,[46]) ::(1,s)::rest:=M5 K
 have hk1:=Q6 K hk
 have K2:=N9 K1
 have K3:=N9 K2
 have hk2:=J7 K1
 have hk3:=J7 K2
 obtain⟨m,rfl⟩:∃q,m=q+1:=⟨m-1,by omega⟩
 have hlen:(w++[((8:Int),([46]:Str)),(1,s)]).length=w.length+2:=by simp
 refine⟨⟨55,s,0,zT,[],[y],y.at_⟩,false,m,n',rfl,by omega,?_,er5 (a9M he)⟩
 rw[e,H8.eq_2,I6 hl hk1,isY K1 a0V]
 have hq:k+w.length+1+1=k+(w++[((8:Int),([46]:Str)),(1,s)]).length:=by omega
 simp (disch:=omega) only[NF,a2o hl hk2,ikY K2 (kd:=1) rfl,a2I K2,F9,a1s hl hk3,isF K3 hr]
 rw[hq]
def RGs (r:Nat)(xs:List Nod)(w:List WK):Prop:=∀ ⦃l:List Tok⦄ ⦃size:Int⦄ ⦃n k:Nat⦄ ⦃rest:List WK⦄,l.length<=3000->k<=l.length->kt (l.drop k)=w++rest->200000+40*(l.length-k)+r<=n -> ∃ys,(d9.fs n).H9 l k size=some (.ok (ys,((k+w.length:Nat):Int)))/\ers ys=ers xs/\ys.length<=10000
theorem rl_method {x:Nod}{w v:List WK}{s:Str}{xs:List Nod}{a:Int}(h:RL x w)(g:RGs 9 xs ((8,[40])::v)):RL ⟨57,s,0,zT,[],x::xs,a⟩ (w ++((8,[46]) ::(1,s) ::(8,[40])::v)):=by
 intro l size n k rest hl hk K hr hn
 rw[List.append_assoc]at K
 obtain⟨y,b,m,n',rfl,hm,e,he⟩:=h hl hk K rfl hn (size:=size)
 have K1:kt (l.drop (k+w.length)) =(8,[46]) ::(1,s) ::(8,[40]) ::(v++rest):=M5 K
 have hk1:=Q6 K hk
 have K2:=N9 K1
 have K3:=N9 K2
 have hk2:=J7 K1
 have hk3:=J7 K2
 obtain⟨m,rfl⟩:∃q,m=q+1:=⟨m-1,by omega⟩
 obtain⟨ys,e2,he2,hy⟩:=g hl hk3 (show _ =(8,[40])::v++rest from K3) (show _<=n' by omega) (size:=size)
 refine⟨⟨57,s,0,zT,[],y::ys,y.at_⟩,false,m,n',rfl,by simp only[List.length_append,List.length_cons];omega,?_,er5 (a0T he he2)⟩
 rw[e,H8.eq_2,I6 hl hk1,isY K1 a0V]
 have hq:k+w.length+1+1+((8,([40]:Str))::v:List WK).length=k+(w ++((8,[46]) ::(1,s) ::(8,[40])::v)).length:=by simp only[List.length_append,List.length_cons];omega
 simp (disch:=omega) only[NF,a2o hl hk2,ikY K2 (kd:=1) rfl,a2I K2,F9,a1s hl hk3,isY K3 a0V]
 rw[e2]
 simp only[NF]
 rw[a1z (by simp) (by omega) (by omega),hq]
 rfl
theorem c33 {s:Str}{a:Int}:RA ⟨54,s,0,zT,[],[],a⟩ [(1,s)]:=by
 intro l size n k rest hl hk K hr hn
 obtain⟨n,rfl⟩:∃q,n=q+1:=⟨n-1,by omega⟩
 have K:kt (l.drop k) =(1,s)::rest:=K
 refine⟨⟨54,s,0,zT,[],[],M8 l size k⟩,?_,rfl⟩
 show A7 n (d9.fs n) l k size=_
 unfold A7
 simp (decide:=true) (disch:=omega) only[NF,Q0 hl hk,a0n hl hk,a0U hl hk,I6 hl hk,a1s hl hk,a0e K,a0o K,a2M,a3u,BC,a2o hl hk,a2I K,F9,List.length_singleton]
theorem rl_call {v:List WK}{s:Str}{xs:List Nod}{a:Int}(g:RGs 9 xs ((8,[40])::v)):RL ⟨56,s,0,zT,[],xs,a⟩ ((1,s) ::(8,[40])::v):=by
 intro l size n k rest hl hk K hr hn
 obtain⟨n,rfl⟩:∃q,n=q+1:=⟨n-1,by omega⟩
 have K:kt (l.drop k) =(1,s) ::(8,[40]) ::(v++rest):=K
 obtain⟨y,e,he⟩:=c33 (s:=s) (a:=0) hl hk (show kt (l.drop k)=[(1,s)] ++((8,[40]) ::(v++rest))from K) trivial (show _<=n by omega) (size:=size)
 have e:(d9.fs n).I4 l k size=some (.ok (y,((k+1:Nat):Int))):=e
 have hk1:=J7 K
 have K1:=N9 K
 have hys:y.s=s:=er_s he
 obtain⟨ys,e2,he2,hy⟩:=g hl hk1 (show _ =(8,[40])::v++rest from K1) (show _<=n by omega) (size:=size)
 obtain⟨m,rfl⟩:∃q,n=q+1:=⟨n-1,by omega⟩
 refine⟨⟨56,s,0,zT,[],ys,y.at_⟩,false,m,m+1,rfl,by simp only[List.length_append,List.length_cons];omega,?_,er5 he2⟩
 show O6 (m+1) (d9.fs (m+1)) l k size=_
 unfold O6
 rw[a0n hl hk,Option.bind_some,ikY K rfl,e]
 simp only[NF]
 have hq:k+1+((8,([40]:Str))::v:List WK).length=k+((1,s) ::(8,[40])::v:List WK).length:=by simp only[List.length_append,List.length_cons];omega
 rw[H8.eq_2,I6 hl hk1,isF K1 rfl]
 simp (disch:=omega) only[NF,a1s hl hk1,isY K1 a0V]
 rw[e2,hq,hys]
 rfl
theorem b21 {x:Nod}{w:List WK}(h:RE x w):RA x ((8,[40]) ::(w++[(8,[41])])):=by
 intro l size n k rest hl hk K hr hn
 obtain⟨n,rfl⟩:∃q,n=q+1:=⟨n-1,by omega⟩
 have K:kt (l.drop k) =(8,[40]) ::(w ++((8,[41])::rest)):=by rw[K];simp
 have hk1:=J7 K
 have K1:=N9 K
 obtain⟨y,e,he⟩:=h hl hk1 K1 ⟨⟨rfl,rfl⟩,fun s hs=>by
  rcases List.mem_cons.1 hs with rfl|hs
  ·rfl
  ·simp only[List.mem_cons,List.not_mem_nil,or_false]at hs
   rcases hs with rfl|rfl|rfl|rfl|rfl|rfl|rfl|rfl|rfl|rfl|rfl|rfl<;>rfl⟩ (show _<=n by omega) (size:=size)
 have K2:=M5 K1
 have hk2:=Q6 K1 hk1
 refine⟨y,?_,he⟩
 show A7 n (d9.fs n) l k size=_
 unfold A7
 have hq:k+1+w.length+1=k+((8,[40]) ::(w++[(8,[41])]):List WK).length:=by simp only[List.length_append,List.length_cons,List.length_nil];omega
 simp (decide:=true) (disch:=omega) only[NF,Q0 hl hk,a0n hl hk,a0U hl hk,I6 hl hk,a1s hl hk,a0e K,a0o K,a2M,a3u,BC]
 rw[e]
 simp (decide:=true) (disch:=omega) only[NF,Y2 hl hk2,a0o K2,a3u,BC,hq]
theorem rl_apply {x:Nod}{w v:List WK}{xs:List Nod}{a:Int}(h:RE x w)(g:RGs 9 xs ((8,[40])::v)):RL ⟨60,[],0,zT,[],x::xs,a⟩ ((8,[40]) ::(w ++((8,[41]) ::(8,[40])::v))):=by
 intro l size n k rest hl hk K hr hn
 obtain⟨n,rfl⟩:∃q,n=q+1:=⟨n-1,by omega⟩
 have K0:kt (l.drop k) =((8,[40]) ::(w++[(8,[41])])) ++((8,[40]) ::(v++rest)):=by rw[K];simp
 obtain⟨y,e,he⟩:=b21 h hl hk K0 trivial (show _<=n by omega) (size:=size)
 have hk1:=Q6 K0 hk
 have K1:=M5 K0
 have K:kt (l.drop k) =(8,[40]) ::(w ++((8,[41]) ::(8,[40])::v)++rest):=K
 have hlen:((8,[40]) ::(w++[(8,[41])]):List WK).length=w.length+2:=by simp
 obtain⟨ys,e2,he2,hy⟩:=g hl hk1 (show _ =(8,[40])::v++rest from K1) (show _<=n by omega) (size:=size)
 obtain⟨m,rfl⟩:∃q,n=q+1:=⟨n-1,by omega⟩
 refine⟨⟨60,[],0,zT,[],y::ys,y.at_⟩,false,m,m+1,rfl,by simp only[List.length_append,List.length_cons];omega,?_,er5 (a0T he he2)⟩
 show O6 (m+1) (d9.fs (m+1)) l k size=_
 unfold O6
 have e:(d9.fs (m+1)).I4 l k size=_:=e
 rw[a0n hl hk,Option.bind_some,ikF K rfl,e]
 simp only[NF]
 have hq:k+((8,[40]) ::(w++[(8,[41])]):List WK).length+((8,([40]:Str))::v:List WK).length=k+((8,[40]) ::(w ++((8,[41]) ::(8,[40])::v)):List WK).length:=by simp only[List.length_append,List.length_cons,List.length_nil];omega
 rw[H8.eq_2,I6 hl hk1,isF K1 rfl]
 simp (disch:=omega) only[NF,a1s hl hk1,isY K1 a0V]
 rw[e2]
 simp only[NF]
 rw[a1z (by simp) (by omega) (by omega),hq]
 rfl
theorem ru_of {x:Nod}{w:List WK}(h:RL x w)(h1:∀r,nx (w++r) 8 [45]=false)(h2:∀r,nx (w++r) 8 [33]=false):RU x w:=by
 intro l size n k rest hl hk K hr hn
 obtain⟨n,rfl⟩:∃q,n=q+1:=⟨n-1,by omega⟩
 obtain⟨y,b,m,n',rfl,hm,e,he⟩:=h hl hk K hr.2 (show _<=n by omega) (size:=size)
 have hk1:=Q6 K hk
 have K1:=M5 K
 obtain⟨m,rfl⟩:∃q,m=q+1:=⟨m-1,by omega⟩
 refine⟨y,?_,he⟩
 show X3 (n'+1) (d9.fs (n'+1)) l k size=_
 unfold X3
 simp only[NF,Q0 hl hk,I6 hl hk,isF K (h1 rest),isF K (h2 rest)]
 rw[e,H8.eq_2]
 simp only[NF,I6 hl hk1,isF K1 hr.1,a1s hl hk1,isF K1 hr.2]
theorem ru_un {o:Int}{c:UInt8}{x:Nod}{w:List WK}{a:Int}(ho:o=65/\c=33∨o=66/\c=45)(h:RU x w):RU ⟨o,[],0,zT,[],[x],a⟩ ((8,[c])::w):=by
 intro l size n k rest hl hk K hr hn
 obtain⟨n,rfl⟩:∃q,n=q+1:=⟨n-1,by omega⟩
 have K:kt (l.drop k) =(8,[c]) ::(w++rest):=K
 have hk1:=J7 K
 have K1:=N9 K
 obtain⟨y,e,he⟩:=h hl hk1 K1 hr (show _<=n by omega) (size:=size)
 refine⟨⟨o,[],0,zT,[],[y],M8 l size k⟩,?_,er5 (a9M he)⟩
 show X3 n (d9.fs n) l k size=_
 unfold X3
 have hq:k+1+w.length=k+((8,[c])::w:List WK).length:=by simp only[List.length_cons];omega
 rcases ho with⟨rfl,rfl⟩ |⟨rfl,rfl⟩
 ·simp (decide:=true) (disch:=omega) only[NF,Q0 hl hk,I6 hl hk,a0o K,a3u,BC]
  rw[e,hq];rfl
 ·simp (decide:=true) (disch:=omega) only[NF,Q0 hl hk,I6 hl hk,a0o K,a3u,BC]
  rw[e,hq];rfl
end Go.Proofs.YtjhfloacokgdiaaGreatDoor
namespace Go.Proofs.YtjhfloacokgdiaaGreatDoor
open Go Go.Vm
theorem c3z {n:Nat}{Φ:PF}{size:Int}{tb:List E8}(ht:TB tb){l:List Tok}(hl:l.length<=3000){k:Nat}(hk:k<=l.length){rest:List WK}(K:kt (l.drop k)=rest)(hr:∀s,OP s->nx rest 8 s=false)(hn:200000<=n){m j:Nat}(hj:j<tb.length){i:Int}{x:Nod}:O5 n Φ size tb l (m+1) j i k x=some (.brk (i,(k:Int),x)):=by
 obtain⟨t1,t2⟩:=ht.2 _ (List.getElem_mem hj)
 have hlv:idx' tb (j:Int)=some tb[j]:=a0S hj
 have hc:∀v,O8 n tb[j].ops v=some (decide (v∈tb[j].ops)):=fun v=>a8W (by omega) (by omega)
 rw[O5.eq_2]
 rcases Nat.lt_or_ge k l.length with h|h
 ·rw[a0v (show(k:Int)<(l.length:Int)by omega)]
  have e1:idx' l (k:Int)=some (a1h l k):=a04 h
  simp only[e1,NF,hlv,hc]
  cases hk8:eqB (a1h l k).kind 8
  ·simp only[NF]
  ·by_cases ho:(a1h l k).text∈tb[j].ops
   ·have h1:=hr _ (t2 _ ho)
    rw[<-a0o K]at h1
    unfold isT isK at h1
    rw[decide_eq_true h,hk8,a4Z]at h1
    cases h1
   ·rw[decide_eq_false ho]
    simp only[NF]
 ·rw[a1j (show ¬(k:Int)<(l.length:Int)by omega)]
  simp only[NF]
theorem b8i {n:Nat}{Φ:PF}{size:Int}{tb:List E8}(ht:TB tb){l:List Tok}(hl:l.length<=3000){k:Nat}(hk:k<=l.length){rest:List WK}(K:kt (l.drop k)=rest)(hr:∀s,OP s->nx rest 8 s=false)(hn:200000<=n){x:Nod}:∀(m i:Nat),i<=tb.length->tb.length<m+i->Q5 n Φ tb size l m i k x=some (.brk ((k:Int),x))
 | 0,i,h1,h2=>by omega
 | m+1,i,h1,h2=>by
  have ht1:=ht.1
  rw[Q5.eq_2]
  rcases Nat.lt_or_ge i tb.length with h|h
  ·have e:w64 (w64 ((tb.length:Int)-1)-(i:Int)) =((tb.length-1-i:Nat):Int):=by rw[a5v (a:=(tb.length:Int)-1) (by omega) (by omega),a5v (by omega) (by omega)];omega
   obtain⟨n',rfl⟩:∃q,n=q+1:=⟨n-1,by omega⟩
   rw[a0v (show(i:Int)<(tb.length:Int)by omega),e,c3z ht hl hk K hr hn (by omega)]
   simp only[NF]
   rw[F9 (by omega)]
   exact b8i ht hl hk K hr hn m (i+1) (by omega) (by omega)
  ·rw[a1j (show ¬(i:Int)<(tb.length:Int)by omega)]
   simp only[NF]
theorem b42 {n:Nat}{size:Int}{tb:List E8}(ht:TB tb){l:List Tok}(hl:l.length<=3000){k:Nat}(hk:k<=l.length){rest:List WK}(K:kt (l.drop k)=rest)(hr:∀s,OP s->nx rest 8 s=false)(hn:200001<=n){x:Nod}:(d9.fs n).I8 x tb l k size=some (.ok (x,(k:Int))):=by
 obtain⟨n,rfl⟩:∃q,n=q+1:=⟨n-1,by omega⟩
 have ht1:=ht.1
 show V9 n (d9.fs n) x tb l k size=_
 unfold V9
 have e:=b8i (Φ:=d9.fs n) (size:=size) (x:=x) ht hl hk K hr (by omega:200000<=n) n 0 (by omega) (by omega)
 have e:Q5 n (d9.fs n) tb size l n 0 k x=_:=e
 rw[e]
 simp only[NF]
theorem l6_op {n:Nat}{size:Int}{tb:List E8}(ht:TB tb){l:List Tok}(hl:l.length<=3000){k:Nat}(hk:k<=l.length){rest w:List WK}{s:Str}{y:Nod}(h:RU y w)(K:kt (l.drop k) =(8,s) ::(w++rest))(hr:NE rest)(hn:200000+40*(l.length-k)<=n){m j:Nat}(hj:j<tb.length)(ho:s∈tb[j].ops){i:Int}{x:Nod}:∃z,O5 n (d9.fs n) size tb l (m+2) j i k x=some (.brk (i,((k+1+w.length:Nat):Int),z))/\z.er =(⟨64,s,0,zT,[],[x,y],0⟩:Nod).er:=by
 obtain⟨t1,t2⟩:=ht.2 _ (List.getElem_mem hj)
 have ht1:=ht.1
 have hlv:idx' tb (j:Int)=some tb[j]:=a0S hj
 have hc:∀v,O8 n tb[j].ops v=some (decide (v∈tb[j].ops)):=fun v=>a8W (by omega) (by omega)
 have hsub:b0X tb (((j+1:Nat):Int)) (tb.length:Int)=some (tb.drop (j+1)):=by rw[b3b (by omega) (Nat.le_refl _),List.take_length]
 have hk1:=J7 K
 have K1:=N9 K
 obtain⟨y',e,he⟩:=h hl hk1 K1 hr.1 (show _<=n by omega) (size:=size)
 have hk2:=Q6 K1 hk1
 have K2:=M5 K1
 have ec:=b42 (n:=n) (size:=size) (x:=y') (ht.drop (j+1)) hl hk2 K2 hr.2 (by omega)
 have e1:idx' l (k:Int)=some (a1h l k):=a04 (by omega)
 have hkd:(a1h l k).kind=8:=(b5q K).2.1
 have htx:(a1h l k).text=s:=a2I K
 have e6:=fun z=>c3z (n:=n) (Φ:=d9.fs n) (size:=size) (m:=m) (i:=i) (x:=z) ht hl hk2 K2 hr.2 (by omega) hj
 refine⟨⟨64,s,0,zT,[],[x,y'],x.at_⟩,?_,er5 (ers2 rfl he)⟩
 rw[O5.eq_2,a0v (show(k:Int)<(l.length:Int)by omega)]
 simp only[e1,NF,hlv,hc,hkd,htx,a0C (show(8:Int)=8 from rfl),decide_eq_true ho,F9 (show j<=1000000000000 by omega),F9 (show k<=1000000000000 by omega),hsub]
 rw[e]
 simp only[NF]
 rw[ec]
 simp only[NF]
 cases tb[j].once
 ·simp only[NF]
  exact e6 _
 ·rfl
theorem l3_op {n:Nat}{size:Int}{tb:List E8}(ht:TB tb){l:List Tok}(hl:l.length<=3000){k:Nat}(hk:k<=l.length){rest w:List WK}{s:Str}{y:Nod}(h:RU y w)(K:kt (l.drop k) =(8,s) ::(w++rest))(hr:NE rest)(hn:200000+40*(l.length-k)<=n){x:Nod}:∀(m i:Nat),(∃j,∃hj:j<tb.length,j+i<tb.length/\s∈tb[j].ops)->tb.length<m+i -> ∃z,Q5 n (d9.fs n) tb size l m i k x=some (.brk (((k+1+w.length:Nat):Int),z))/\z.er =(⟨64,s,0,zT,[],[x,y],0⟩:Nod).er
 | 0,i,⟨j,hj,h1,_⟩,h2=>by omega
 | m+1,i,⟨j,hj,h1,h3⟩,h2=>by
  have ht1:=ht.1
  have e:w64 (w64 ((tb.length:Int)-1)-(i:Int)) =((tb.length-1-i:Nat):Int):=by rw[a5v (a:=(tb.length:Int)-1) (by omega) (by omega),a5v (by omega) (by omega)];omega
  have hj2:tb.length-1-i<tb.length:=by omega
  obtain⟨n2,hn2⟩:∃q,n=q+2:=⟨n-2,by omega⟩
  rw[Q5.eq_2,a0v (show(i:Int)<(tb.length:Int)by omega),e]
  by_cases ho:s∈tb[tb.length-1-i].ops
  ·obtain⟨z,e2,he⟩:=l6_op (m:=n2) (i:=(i:Int)) (x:=x) (size:=size) ht hl hk h K hr hn hj2 ho
   rw[<-hn2]at e2
   have hk1:=J7 K
   have K1:=N9 K
   refine⟨z,?_,he⟩
   rw[e2]
   simp only[NF]
   rw[F9 (by omega)]
   exact b8i ht hl (Q6 K1 hk1) (M5 K1) hr.2 (by omega) m (i+1) (by omega) (by omega)
  ·obtain⟨t1,t2⟩:=ht.2 _ (List.getElem_mem hj2)
   have hlv:idx' tb ((tb.length-1-i:Nat):Int)=some tb[tb.length-1-i]:=a0S hj2
   have hc:∀v,O8 n tb[tb.length-1-i].ops v=some (decide (v∈tb[tb.length-1-i].ops)):=fun v=>a8W (by omega) (by omega)
   have hk1:=J7 K
   have e1:idx' l (k:Int)=some (a1h l k):=a04 (by omega)
   have hkd:(a1h l k).kind=8:=(b5q K).2.1
   have htx:(a1h l k).text=s:=a2I K
   have e6:O5 n (d9.fs n) size tb l n ((tb.length-1-i:Nat):Int) i k x=some (.brk ((i:Int),(k:Int),x)):=by
    have:O5 n (d9.fs n) size tb l (n2+1+1) ((tb.length-1-i:Nat):Int) i k x=some (.brk ((i:Int),(k:Int),x)):=by
     rw[O5.eq_2,a0v (show(k:Int)<(l.length:Int)by omega)]
     simp only[e1,NF,hlv,hc,hkd,htx,a0C (show(8:Int)=8 from rfl),decide_eq_false ho]
    rw[<-hn2]at this
    exact this
   rw[e6]
   simp only[NF]
   rw[F9 (by omega)]
   refine l3_op ht hl hk h K hr hn m (i+1) ⟨j,hj,?_,h3⟩ (by omega)
   rcases Nat.lt_or_ge (j+(i+1)) tb.length with h4|h4
   ·exact h4
   ·exact absurd (show s∈tb[tb.length-1-i].ops by
     have:tb.length-1-i=j:=by omega
     simp only[this]
     exact h3) ho
abbrev LV:List E8:=[(⟨[[124,124]],false⟩:E8),(⟨[[38,38]],false⟩:E8),(⟨[[61,61],[33,61],[60],[60,61],[62],[62,61]],true⟩:E8),(⟨[[43],[45]],false⟩:E8),(⟨[[42],[47],[37]],false⟩:E8)]
theorem a8C {P:Str->Prop}{s:Str}(h:OP s)(h1:P [124,124])(h2:P [38,38])(h3:P [61,61])(h4:P [33,61])(h5:P [60])(h6:P [60,61])(h7:P [62])(h8:P [62,61])(h9:P [43])(h10:P [45])(h11:P [42])(h12:P [47])(h13:P [37]):P s:=by
 unfold OP at h
 simp only[List.mem_cons,List.not_mem_nil,or_false]at h
 rcases h with rfl|rfl|rfl|rfl|rfl|rfl|rfl|rfl|rfl|rfl|rfl|rfl|rfl<;>assumption
theorem op_lv {s:Str}(h:OP s):∃j,∃hj:j<LV.length,j+0<LV.length/\s∈LV[j].ops:=by
 refine a8C (P:=fun s=>∃j,∃hj:j<LV.length,j+0<LV.length/\s∈LV[j].ops) h ?_ ?_ ?_ ?_ ?_ ?_ ?_ ?_ ?_ ?_ ?_ ?_ ?_
 ·exact⟨0,by decide,by decide,by decide⟩
 ·exact⟨1,by decide,by decide,by decide⟩
 ·exact⟨2,by decide,by decide,by decide⟩
 ·exact⟨2,by decide,by decide,by decide⟩
 ·exact⟨2,by decide,by decide,by decide⟩
 ·exact⟨2,by decide,by decide,by decide⟩
 ·exact⟨2,by decide,by decide,by decide⟩
 ·exact⟨2,by decide,by decide,by decide⟩
 ·exact⟨3,by decide,by decide,by decide⟩
 ·exact⟨3,by decide,by decide,by decide⟩
 ·exact⟨4,by decide,by decide,by decide⟩
 ·exact⟨4,by decide,by decide,by decide⟩
 ·exact⟨4,by decide,by decide,by decide⟩
theorem re_of {x:Nod}{w:List WK}(h:RU x w):RE x w:=by
 intro l size n k rest hl hk K hr hn
 obtain⟨n,rfl⟩:∃q,n=q+1:=⟨n-1,by omega⟩
 obtain⟨y,e,he⟩:=h hl hk K hr.1 (show _<=n by omega) (size:=size)
 refine⟨y,?_,he⟩
 show X9 n (d9.fs n) l k size=_
 unfold X9
 rw[e]
 simp only[NF,a4d]
 rw[b42 c2Q hl (Q6 K hk) (M5 K) hr.2 (by omega)]
 simp only[NF]
theorem re_bin {x y:Nod}{w v:List WK}{s:Str}{a:Int}(ho:OP s)(h:RU x w)(g:RU y v):RE ⟨64,s,0,zT,[],[x,y],a⟩ (w ++((8,s)::v)):=by
 intro l size n k rest hl hk K hr hn
 obtain⟨n,rfl⟩:∃q,n=q+1:=⟨n-1,by omega⟩
 have K:kt (l.drop k)=w ++((8,s) ::(v++rest)):=by rw[K];simp
 have hnp:NP ((8,s) ::(v++rest)):=by
  refine a8C (P:=fun s=>NP ((8,s) ::(v++rest))) ho ?_ ?_ ?_ ?_ ?_ ?_ ?_ ?_ ?_ ?_ ?_ ?_ ?_<;>exact⟨rfl,rfl⟩
 obtain⟨y1,e,he⟩:=h hl hk K hnp (show _<=n by omega) (size:=size)
 have hk1:=Q6 K hk
 have K1:=M5 K
 obtain⟨p,rfl⟩:∃q,n=q+1:=⟨n-1,by omega⟩
 have hk2:=J7 K1
 obtain⟨z,e2,he2⟩:=l3_op (size:=size) (x:=y1) (n:=p) (tb:=LV) c2Q hl hk1 g K1 hr (by omega) p 0 (op_lv ho) (by simp only[List.length_cons,List.length_nil];omega)
 refine⟨z,?_,he2.trans (er5 (ers2 he rfl))⟩
 show X9 (p+1) (d9.fs (p+1)) l k size=_
 unfold X9
 rw[e]
 simp only[NF,a4d]
 have ec:(d9.fs (p+1)).I8 y1 LV l ((k+w.length:Nat):Int) size=some (.ok (z,((k+w.length+1+v.length:Nat):Int))):=by
  show V9 p (d9.fs p) y1 LV l ((k+w.length:Nat):Int) size=_
  unfold V9
  have e2:Q5 p (d9.fs p) LV size l p 0 ((k+w.length:Nat):Int) y1=_:=e2
  rw[e2]
  simp only[NF]
 have hq:k+w.length+1+v.length=k+(w ++((8,s)::v)).length:=by simp only[List.length_append,List.length_cons];omega
 rw[ec,hq]
 simp only[NF]
theorem ra_bin {x y:Nod}{w v:List WK}{s:Str}{a:Int}(ho:OP s)(h:RU x w)(g:RU y v):RA ⟨64,s,0,zT,[],[x,y],a⟩ ((8,[40]) ::(w ++((8,s) ::(v++[(8,[41])])))):=by
 have:=b21 (re_bin (a:=a) ho h g)
 rw[List.append_assoc]at this
 exact this
def RP (x:Nod)(w:List WK):Prop:=∀ ⦃l:List Tok⦄ ⦃size:Int⦄ ⦃n k:Nat⦄ ⦃rest:List WK⦄,l.length<=3000->k<=l.length->kt (l.drop k)=w++rest->200000<=n -> ∃a o s xs m,l.length<m+(k+w.length)/\a0j n l k size =(a1A (α:=Int×Int×Str×List Nod) (X8 n a size l m ((k+w.length:Nat):Int) o s xs) fun(b2D,op523,s524,l525)=>some (.ok ((⟨op523,s524,0,(⟨0,[],0,[]⟩:Typ),[],l525,a⟩:Nod),b2D)))/\(⟨o,s,0,zT,[],xs,a⟩:Nod).er=x.er
theorem rp_name {s:Str}{a:Int}:RP ⟨54,s,0,zT,[],[],a⟩ [(1,s)]:=by
 intro l size n k rest hl hk K hn
 have K:kt (l.drop k) =(1,s)::rest:=K
 have hk1:=J7 K
 refine⟨M8 l size k,54,s,[],n,by omega,?_,rfl⟩
 unfold a0j
 rw[Q0 hl hk,a2o hl hk,ikY K rfl,a2I K,F9 (by omega)]
 rfl
theorem rp_field {x:Nod}{w:List WK}{s:Str}{a:Int}(h:RP x w):RP ⟨55,s,0,zT,[],[x],a⟩ (w++[(8,[46]),(1,s)]):=by
 intro l size n k rest hl hk K hn
 rw[List.append_assoc]at K
 obtain⟨b,o,u,xs,m,hm,e,he⟩:=h hl hk K hn (size:=size)
 have K1:kt (l.drop (k+w.length)) =(8,[46]) ::(1,s)::rest:=M5 K
 have hk1:=Q6 K hk
 have K2:=N9 K1
 have hk2:=J7 K1
 have hk3:=J7 K2
 obtain⟨m,rfl⟩:∃q,m=q+1:=⟨m-1,by omega⟩
 have hq:k+w.length+1+1=k+(w++[((8:Int),([46]:Str)),(1,s)]).length:=by simp only[List.length_append,List.length_cons,List.length_nil];omega
 refine⟨b,55,s,[⟨o,u,0,zT,[],xs,b⟩],m,by omega,?_,er5 (a9M he)⟩
 rw[e,X8.eq_2,I6 hl hk1,isY K1 a0V]
 simp only[NF,a2o hl hk2,ikY K2 (kd:=1) rfl,a2I K2]
 rw[F9 (by omega),hq]
theorem c35 {x:Nod}{w:List WK}(h:RP x w){l:List Tok}{size:Int}{n k:Nat}{rest:List WK}(hl:l.length<=3000)(hk:k<=l.length)(K:kt (l.drop k)=w++rest)(hr:nx rest 8 [46]=false)(hn:200000<=n):∃y,a0j n l k size=some (.ok (y,((k+w.length:Nat):Int)))/\y.er=x.er:=by
 obtain⟨b,o,u,xs,m,hm,e,he⟩:=h hl hk K hn (size:=size)
 have hk1:=Q6 K hk
 obtain⟨m,rfl⟩:∃q,m=q+1:=⟨m-1,by omega⟩
 refine⟨_,?_,he⟩
 rw[e,X8.eq_2,I6 hl hk1,isF (M5 K) hr]
 simp only[NF]
def RG (x:Nod)(w:List WK):Prop:=(∃p u a,x =⟨62,[],0,zT,[],[p],a⟩/\w =(8,[38])::u/\RP p u)∨RE x w/\(∀r,nx (w++r) 8 [38]=false) /\ ∀r,nx (w++r) 8 [41]=false
theorem RG.ne {x:Nod}{w:List WK}(h:RG x w):∀r,nx (w++r) 8 [41]=false:=by
 rcases h with⟨p,u,a,rfl,rfl,_⟩ |⟨_,_,h⟩
 ·intro r;rfl
 ·exact h
theorem ne_cm {r:List (List WK)}{p:WK}{rest:List WK}(hp:NE (p::rest)):NE (cm r ++(p::rest)):=by
 cases r with
 | nil=>exact hp
 | cons w r =>
  rw[a3B]
  exact⟨⟨rfl,rfl⟩,fun s hs=>a8C (P:=fun s=>nx ((8,[44]) ::(w++cm r)++p::rest) 8 s=false) hs rfl rfl rfl rfl rfl rfl rfl rfl rfl rfl rfl rfl rfl⟩
theorem a1B {s:Str}{rest:List WK}(h:s=[41]∨s=[93]∨s=[59]∨s=[123]∨s=[61]):NE ((8,s)::rest):=by
 rcases h with rfl|rfl|rfl|rfl|rfl<;>exact⟨⟨rfl,rfl⟩,fun s hs=>a8C (P:=fun s=>nx _ 8 s=false) hs rfl rfl rfl rfl rfl rfl rfl rfl rfl rfl rfl rfl rfl⟩
theorem args_lp {n:Nat}{size:Int}{l:List Tok}(hl:l.length<=3000){rest:List WK}:∀{xs:List Nod} {vs:List (List WK)},a1e RG xs vs -> ∀(x:Nod) (w:List WK),RG x w -> ∀(m k:Nat) (acc:List Nod),k<=l.length->kt (l.drop k)=w ++(cm vs ++((8,[41])::rest))->200000+40*(l.length-k)+20<=n->xs.length<m->acc.length+xs.length<=9000 -> ∃ys,Y6 n (d9.fs n) size l m acc k=some (.brk (acc++ys,((k+(w++cm vs).length:Nat):Int)))/\ers ys=ers (x::xs):=by
 intro xs vs hv
 induction hv with
 | nil =>
  intro x w hg m k acc hk K hn hm ha
  obtain⟨m,rfl⟩:∃q,m=q+1:=⟨m-1,by omega⟩
  have K:kt (l.drop k)=w ++((8,[41])::rest):=K
  have hk1:=Q6 K hk
  have K1:=M5 K
  have hq:k+(w++cm []).length=k+w.length:=by simp[cm]
  rw[hq,Y6.eq_2]
  rcases hg with⟨p,u,a,rfl,rfl,h⟩ |⟨h,hh,_⟩
  ·have K:kt (l.drop k) =(8,[38]) ::(u ++((8,[41])::rest)):=K
   have hkb:=J7 K
   obtain⟨y,e,he⟩:=c35 h (size:=size) (n:=n) hl hkb (N9 K) rfl (by omega)
   refine⟨[⟨62,[],0,zT,[],[y],M8 l size k⟩],?_,a9M (er5 (a9M he))⟩
   have hq2:k+1+u.length=k+((8,[38])::u:List WK).length:=by simp only[List.length_cons];omega
   simp only[NF,Q0 hl hk,I6 hl hk,isY K a0V]
   rw[e]
   simp only[NF]
   rw[a1z (by omega) (by simp) (by omega),hq2]
   simp only[NF,I6 hl hk1,isF (kd:=8) (s:=[44]) K1 rfl]
  ·obtain⟨y,e,he⟩:=h hl hk K (a1B (.inl rfl)) (show _<=n by omega) (size:=size)
   refine⟨[y],?_,a9M he⟩
   simp only[NF,Q0 hl hk,I6 hl hk,isF K (hh _)]
   rw[e]
   simp only[NF]
   rw[a1z (by omega) (by simp) (by omega)]
   simp only[NF,I6 hl hk1,isF (kd:=8) (s:=[44]) K1 rfl]
 | @cons x2 w2 xs vs hg2 hv ih =>
  intro x w hg m k acc hk K hn hm ha
  simp only[List.length_cons]at hm ha
  obtain⟨m,rfl⟩:∃q,m=q+1:=⟨m-1,by omega⟩
  rw[a3B,List.cons_append,List.append_assoc]at K
  have hk1:=Q6 K hk
  have K1:=M5 K
  have hk2:=J7 K1
  have K2:=N9 K1
  rw[Y6.eq_2]
  have hq:∀k':Nat,k'=k+w.length+1->k'+(w2++cm vs).length=k+(w++cm (w2::vs)).length:=by intro k' e;rw[a3B];simp only[List.length_append,List.length_cons];omega
  rcases hg with⟨p,u,a,rfl,rfl,h⟩ |⟨h,hh,_⟩
  ·have K:kt (l.drop k) =(8,[38]) ::(u++_):=K
   have hkb:=J7 K
   obtain⟨y,e,he⟩:=c35 h (size:=size) (n:=n) hl hkb (N9 K) rfl (by omega)
   have hq2:k+1+u.length=k+((8,[38])::u:List WK).length:=by simp only[List.length_cons];omega
   obtain⟨ys,e2,he2⟩:=ih x2 w2 hg2 m _ (acc++[⟨62,[],0,zT,[],[y],M8 l size k⟩]) hk2 K2 (by omega) (by omega) (by simp only[List.length_append,List.length_cons,List.length_nil];omega)
   refine⟨⟨62,[],0,zT,[],[y],M8 l size k⟩::ys,?_,a0T (er5 (a9M he)) he2⟩
   simp only[NF,Q0 hl hk,I6 hl hk,isY K a0V]
   rw[e]
   simp only[NF]
   rw[a1z (by omega) (by simp) (by omega),hq2]
   simp only[NF,I6 hl hk1,isY K1 a0V]
   rw[e2,hq _ rfl,List.append_assoc];rfl
  ·obtain⟨y,e,he⟩:=h hl hk K ⟨⟨rfl,rfl⟩,fun s hs=>a8C (P:=fun s=>nx _ 8 s=false) hs rfl rfl rfl rfl rfl rfl rfl rfl rfl rfl rfl rfl rfl⟩ (show _<=n by omega) (size:=size)
   obtain⟨ys,e2,he2⟩:=ih x2 w2 hg2 m _ (acc++[y]) hk2 K2 (by omega) (by omega) (by simp only[List.length_append,List.length_cons,List.length_nil];omega)
   refine⟨y::ys,?_,a0T he he2⟩
   simp only[NF,Q0 hl hk,I6 hl hk,isF K (hh _)]
   rw[e]
   simp only[NF]
   rw[a1z (by omega) (by simp) (by omega)]
   simp only[NF,I6 hl hk1,isY K1 a0V]
   rw[e2,hq _ rfl,List.append_assoc];rfl
theorem rg_args {xs:List Nod}{vs:List (List WK)}(h:a1e RG xs vs)(hx:xs.length<=8000):RGs 9 xs (cw vs):=by
 intro l size n k rest hl hk K hn
 obtain⟨n,rfl⟩:∃q,n=q+1:=⟨n-1,by omega⟩
 have K:kt (l.drop k) =(8,[40]) ::(jo vs ++((8,[41])::rest)):=by rw[K];simp[cw]
 have hk1:=J7 K
 have K1:=N9 K
 show ∃ys,a0p n (d9.fs n) l k size=_/\_
 unfold a0p
 cases h with
 | nil =>
  have K1:kt (l.drop (k+1)) =(8,[41])::rest:=K1
  refine⟨[],?_,rfl,by simp⟩
  simp only[NF,Y2 hl hk,isY K a0V,I6 hl hk1,isY K1 a0V]
  rfl
 | @cons x w xs vs h1 h2 =>
  rw[a9I,List.append_assoc]at K1
  simp only[List.length_cons]at hx
  obtain⟨ys,e,he⟩:=args_lp (size:=size) (n:=n) hl h2 x w h1 n (k+1) [] hk1 K1 (by omega) (by omega) (by simp only[List.length_nil];omega)
  have hyl:=a3Y he
  rw[<-List.append_assoc]at K1
  have hk2:=Q6 K1 hk1
  have K2:=M5 K1
  refine⟨ys,?_,he,by simp only[List.length_cons]at hyl;omega⟩
  have hq:k+1+(w++cm vs).length+1=k+(cw (w::vs)).length:=by unfold cw;rw[a9I];simp only[List.length_append,List.length_cons,List.length_nil];omega
  simp only[NF,Y2 hl hk,isY K a0V,I6 hl hk1,isF K1 (show nx (w++cm vs ++(8,[41])::rest) 8 [41]=false by rw[List.append_assoc];exact h1.ne _)]
  rw[e]
  simp only[NF,Y2 hl hk2,isY K2 a0V,hq,List.nil_append]
end Go.Proofs.YtjhfloacokgdiaaGreatDoor
namespace Go.Proofs.YtjhfloacokgdiaaGreatDoor
open Go Go.Vm
theorem ra_int {s:Str}(hd:b2H s=true){a:Int}:RA ⟨50,[],((a0B s 0:Nat):Int),zT,[],[],a⟩ [(3,s)]:=by
 intro l size n k rest hl hk K hr hn
 obtain⟨n,rfl⟩:∃q,n=q+1:=⟨n-1,by omega⟩
 have K:kt (l.drop k) =(3,s)::rest:=K
 refine⟨⟨50,[],((a0B s 0:Nat):Int),zT,[],[],M8 l size k⟩,?_,rfl⟩
 show A7 n (d9.fs n) l k size=_
 unfold A7
 simp (decide:=true) (disch:=omega) only[NF,Q0 hl hk,a0n hl hk,a0U hl hk,I6 hl hk,a1s hl hk,a0e K,a0o K,a2M,a3u,BC,b9L hl hk,a2I K,atoi,hd,F9,List.length_singleton]
theorem ra_tru  {a:Int}:RA ⟨51,[],1,zT,[],[],a⟩ [(9,[116,114,117,101])]:=by
 intro l size n k rest hl hk K hr hn
 obtain⟨n,rfl⟩:∃q,n=q+1:=⟨n-1,by omega⟩
 have K:kt (l.drop k) =(9,[116,114,117,101])::rest:=K
 refine⟨⟨51,[],1,zT,[],[],M8 l size k⟩,?_,rfl⟩
 show A7 n (d9.fs n) l k size=_
 unfold A7
 simp (decide:=true) (disch:=omega) only[NF,Q0 hl hk,a0n hl hk,a0U hl hk,I6 hl hk,a1s hl hk,a0e K,a0o K,a2M,a3u,BC,List.length_singleton]
theorem ra_fal  {a:Int}:RA ⟨51,[],0,zT,[],[],a⟩ [(9,[102,97,108,115,101])]:=by
 intro l size n k rest hl hk K hr hn
 obtain⟨n,rfl⟩:∃q,n=q+1:=⟨n-1,by omega⟩
 have K:kt (l.drop k) =(9,[102,97,108,115,101])::rest:=K
 refine⟨⟨51,[],0,zT,[],[],M8 l size k⟩,?_,rfl⟩
 show A7 n (d9.fs n) l k size=_
 unfold A7
 simp (decide:=true) (disch:=omega) only[NF,Q0 hl hk,a0n hl hk,a0U hl hk,I6 hl hk,a1s hl hk,a0e K,a0o K,a2M,a3u,BC,List.length_singleton]
theorem ra_text {s:Str}{a:Int}:RA ⟨52,s,0,zT,[],[],a⟩ [(4,s)]:=by
 intro l size n k rest hl hk K hr hn
 obtain⟨n,rfl⟩:∃q,n=q+1:=⟨n-1,by omega⟩
 have K:kt (l.drop k) =(4,s)::rest:=K
 refine⟨⟨52,s,0,zT,[],[],M8 l size k⟩,?_,rfl⟩
 show A7 n (d9.fs n) l k size=_
 unfold A7
 simp (decide:=true) (disch:=omega) only[NF,Q0 hl hk,a0n hl hk,a0U hl hk,I6 hl hk,a1s hl hk,a0e K,a0o K,a2M,a3u,BC,a5U hl hk,a2I K,F9,List.length_singleton]
theorem ra_cons {s:Str}{a:Int}:RA ⟨61,s,0,zT,[],[],a⟩ [(9,[99,111,110,115,117,109,101]),(1,s)]:=by
 intro l size n k rest hl hk K hr hn
 obtain⟨n,rfl⟩:∃q,n=q+1:=⟨n-1,by omega⟩
 have K:kt (l.drop k) =(9,[99,111,110,115,117,109,101]) ::(1,s)::rest:=K
 have hk1:=J7 K
 have K1:=N9 K
 have hq:k+1+1=k+[((9:Int),([99,111,110,115,117,109,101]:Str)),(1,s)].length:=rfl
 refine⟨⟨61,s,0,zT,[],[],M8 l size k⟩,?_,rfl⟩
 show A7 n (d9.fs n) l k size=_
 unfold A7
 simp (decide:=true) (disch:=omega) only[NF,Q0 hl hk,a0n hl hk,a0U hl hk,I6 hl hk,a1s hl hk,a0e K,a0o K,a2M,a3u,BC,a2o hl hk1,a0e K1,a2I K1,F9]
 rfl
def RB1 (x:Nod)(w:List WK):Prop:=RE x w /\ ∀r,nx (w++r) 8 [93]=false
theorem atom_lp {n:Nat}{size:Int}{l:List Tok}(hl:l.length<=3000){rest:List WK}:∀{xs:List Nod} {vs:List (List WK)},a1e RB1 xs vs -> ∀(m k:Nat) (acc:List Nod),k<=l.length->kt (l.drop k)=cm vs ++((8,[93])::rest)->200000+40*(l.length-k)<=n->xs.length<m->acc.length+xs.length<=9000 -> ∃ys,X7 n (d9.fs n) size l m k acc=some (.brk (((k+(cm vs).length:Nat):Int),acc++ys))/\ers ys=ers xs:=by
 intro xs vs hv
 induction hv with
 | nil =>
  intro m k acc hk K hn hm ha
  obtain⟨m,rfl⟩:∃q,m=q+1:=⟨m-1,by omega⟩
  have K:kt (l.drop k) =(8,[93])::rest:=K
  refine⟨[],?_,rfl⟩
  rw[X7.eq_2,I6 hl hk,isF (kd:=8) (s:=[44]) K rfl]
  simp[cm]
 | @cons x w xs vs hg hv ih =>
  intro m k acc hk K hn hm ha
  simp only[List.length_cons]at hm ha
  obtain⟨m,rfl⟩:∃q,m=q+1:=⟨m-1,by omega⟩
  rw[a3B,List.cons_append,List.append_assoc]at K
  have hk1:=J7 K
  have K1:=N9 K
  have hk2:=Q6 K1 hk1
  have K2:=M5 K1
  obtain⟨y,e,he⟩:=hg.1 hl hk1 K1 (ne_cm (a1B (.inr (.inl rfl)))) (show _<=n by omega) (size:=size)
  obtain⟨ys,e2,he2⟩:=ih m _ (acc++[y]) hk2 K2 (by omega) (by omega) (by simp only[List.length_append,List.length_cons,List.length_nil];omega)
  refine⟨y::ys,?_,a0T he he2⟩
  rw[X7.eq_2,I6 hl hk,isY K a0V]
  simp only[NF]
  rw[e]
  simp only[NF]
  rw[a1z (by omega) (by simp) (by omega)]
  simp only[NF]
  rw[e2,List.append_assoc]
  have hq:k+1+w.length+(cm vs).length=k+(cm (w::vs)).length:=by rw[a3B];simp only[List.length_append,List.length_cons];omega
  rw[hq];rfl
theorem ra_list {xs:List Nod}{vs:List (List WK)}{a:Int}(h:a1e RB1 xs vs)(hx:xs.length<=8000):RA ⟨67,[],0,zT,[],xs,a⟩ ((8,[91]) ::(jo vs++[(8,[93])])):=by
 intro l size n k rest hl hk K hr hn
 obtain⟨n,rfl⟩:∃q,n=q+1:=⟨n-1,by omega⟩
 have K:kt (l.drop k) =(8,[91]) ::(jo vs ++((8,[93])::rest)):=by rw[K];simp
 have hk1:=J7 K
 have K1:=N9 K
 show ∃y,A7 n (d9.fs n) l k size=_/\_
 unfold A7
 cases h with
 | nil =>
  have K1:kt (l.drop (k+1)) =(8,[93])::rest:=K1
  refine⟨⟨67,[],0,zT,[],[],M8 l size k⟩,?_,rfl⟩
  simp (decide:=true) (disch:=omega) only[NF,Q0 hl hk,a0n hl hk,a0U hl hk,I6 hl hk,a1s hl hk,a0e K,a0o K,a2M,a3u,BC,I6 hl hk1,isY K1 a0V]
  rfl
 | @cons x w xs vs h1 h2 =>
  rw[a9I,List.append_assoc]at K1
  simp only[List.length_cons]at hx
  have hk2:=Q6 K1 hk1
  have K2:=M5 K1
  obtain⟨y,e,he⟩:=h1.1 hl hk1 K1 (ne_cm (a1B (.inr (.inl rfl)))) (show _<=n by omega) (size:=size)
  obtain⟨ys,e2,he2⟩:=atom_lp (size:=size) (n:=n) hl h2 n _ [y] hk2 K2 (by omega) (by omega) (by simp only[List.length_cons,List.length_nil];omega)
  have hk3:=Q6 K2 hk2
  have K3:=M5 K2
  refine⟨⟨67,[],0,zT,[],y::ys,M8 l size k⟩,?_,er5 (a0T he he2)⟩
  have hq:k+1+w.length+(cm vs).length+1=k+((8,[91]) ::(jo (w::vs)++[(8,[93])]):List WK).length:=by rw[a9I];simp only[List.length_append,List.length_cons,List.length_nil];omega
  simp (decide:=true) (disch:=omega) only[NF,Q0 hl hk,a0n hl hk,a0U hl hk,I6 hl hk,a1s hl hk,a0e K,a0o K,a2M,a3u,BC,I6 hl hk1,isF K1 (h1.2 _)]
  rw[e]
  simp only[NF]
  rw[a1z (by simp) (by simp) (by omega)]
  simp only[NF,List.nil_append]
  rw[e2]
  simp only[NF,Y2 hl hk3,isY K3 a0V,hq]
  rfl
theorem W_two {V:Int->Str->Prop}{t:Typ}(h:GT V true t):∃u r,W t =(2,u)::r:=by
 obtain⟨p,r,e,h⟩:=W_hd h
 rcases h with h |⟨h,_⟩
 ·obtain⟨p1,p2⟩:=p
  simp only at h
  subst h
  exact⟨p2,r,e⟩
 ·cases h
theorem ra_make {V:Int->Str->Prop}{t:Typ}{xs:List Nod}{v:List WK}{a:Int}(ht:GT V true t)(hz:t.sz<=40000)(g:RGs 9 xs ((8,[40])::v)):RA ⟨59,[],0,t,[],xs,a⟩ (W t ++((8,[40])::v)):=by
 intro l size n k rest hl hk K hr hn
 obtain⟨n,rfl⟩:∃q,n=q+1:=⟨n-1,by omega⟩
 have K0:kt (l.drop k)=W t ++((8,[40]) ::(v++rest)):=by rw[K];simp
 obtain⟨u,r,ew⟩:=W_two ht
 have K:kt (l.drop k) =(2,u) ::(r ++((8,[40]) ::(v++rest))):=by rw[K0,ew];rfl
 have hk1:=Q6 K0 hk
 have K1:=M5 K0
 have e:=b8J (size:=size) (n:=n) ht hz (by omega) hl hk K0 ⟨rfl,.inl rfl⟩
 have hwl:0<(W t).length:=by rw[ew];simp
 obtain⟨ys,e2,he2,hy⟩:=g hl hk1 (show _ =(8,[40])::v++rest from K1) (show _<=n by omega) (size:=size)
 refine⟨⟨59,[],0,t,[],ys,M8 l size k⟩,?_,er5 he2⟩
 have hq:k+(W t).length+((8,([40]:Str))::v:List WK).length=k+(W t ++((8,[40])::v)).length:=by simp only[List.length_append];omega
 show A7 n (d9.fs n) l k size=_
 unfold A7
 simp (decide:=true) (disch:=omega) only[NF,Q0 hl hk,a0n hl hk,a0U hl hk,I6 hl hk,a1s hl hk,a0e K,a0o K,a2M,a3u,BC]
 rw[e]
 simp only[NF,a1s hl hk1,isY K1 a0V]
 rw[e2,hq]
 rfl
theorem ra_stat1 {V:Int->Str->Prop}{t:Typ}{s:Str}{xs:List Nod}{v:List WK}{a:Int}(ht:GT V true t)(hz:t.sz<=40000)(g:RGs 9 xs ((8,[40])::v)):RA ⟨58,s,1,t,[],xs,a⟩ (W t ++((8,[46]) ::(1,s) ::(8,[40])::v)):=by
 intro l size n k rest hl hk K hr hn
 obtain⟨n,rfl⟩:∃q,n=q+1:=⟨n-1,by omega⟩
 have K0:kt (l.drop k)=W t ++((8,[46]) ::(1,s) ::(8,[40]) ::(v++rest)):=by rw[K];simp
 obtain⟨u,r,ew⟩:=W_two ht
 have K:kt (l.drop k) =(2,u) ::(r ++((8,[46]) ::(1,s) ::(8,[40]) ::(v++rest))):=by rw[K0,ew];rfl
 have hk1:=Q6 K0 hk
 have K1:=M5 K0
 have hk2:=J7 K1
 have K2:=N9 K1
 have hk3:=J7 K2
 have K3:=N9 K2
 have e:=b8J (size:=size) (n:=n) ht hz (by omega) hl hk K0 ⟨rfl,.inr ⟨rfl,_,_,rfl⟩⟩
 have hwl:0<(W t).length:=by rw[ew];simp
 obtain⟨ys,e2,he2,hy⟩:=g hl hk3 (show _ =(8,[40])::v++rest from K3) (show _<=n by omega) (size:=size)
 refine⟨⟨58,s,1,t,[],ys,M8 l size k⟩,?_,er5 he2⟩
 have hq:k+(W t).length+1+1+((8,([40]:Str))::v:List WK).length=k+(W t ++((8,[46]) ::(1,s) ::(8,[40])::v)).length:=by simp only[List.length_append,List.length_cons];omega
 show A7 n (d9.fs n) l k size=_
 unfold A7
 simp (decide:=true) (disch:=omega) only[NF,Q0 hl hk,a0n hl hk,a0U hl hk,I6 hl hk,a1s hl hk,a0e K,a0o K,a2M,a3u,BC]
 rw[e]
 simp (disch:=omega) only[NF,a1s hl hk1,isF (kd:=8) (s:=[40]) K1 rfl,Y2 hl hk1,isY K1 a0V,a2o hl hk2,ikY K2 (kd:=1) rfl,a2I K2,F9,a1s hl hk3,isY K3 a0V]
 rw[e2,hq]
 rfl
theorem ra_stat0 {V:Int->Str->Prop}{t:Typ}{s:Str}{a:Int}(ht:GT V true t)(hz:t.sz<=40000):RAN ⟨58,s,0,t,[],[],a⟩ (W t++[(8,[46]),(1,s)]):=by
 intro l size n k rest hl hk K hr hn
 obtain⟨n,rfl⟩:∃q,n=q+1:=⟨n-1,by omega⟩
 have K0:kt (l.drop k)=W t ++((8,[46]) ::(1,s)::rest):=by rw[K];simp
 obtain⟨u,r,ew⟩:=W_two ht
 have K:kt (l.drop k) =(2,u) ::(r ++((8,[46]) ::(1,s)::rest)):=by rw[K0,ew];rfl
 have hk1:=Q6 K0 hk
 have K1:=M5 K0
 have hk2:=J7 K1
 have K2:=N9 K1
 have hk3:=J7 K2
 have K3:=N9 K2
 have e:=b8J (size:=size) (n:=n) ht hz (by omega) hl hk K0 ⟨rfl,.inr ⟨rfl,_,_,rfl⟩⟩
 refine⟨⟨58,s,0,t,[],[],M8 l size k⟩,?_,rfl⟩
 have hq:k+(W t).length+1+1=k+(W t++[((8:Int),([46]:Str)),(1,s)]).length:=by simp only[List.length_append,List.length_cons,List.length_nil];omega
 show A7 n (d9.fs n) l k size=_
 unfold A7
 simp (decide:=true) (disch:=omega) only[NF,Q0 hl hk,a0n hl hk,a0U hl hk,I6 hl hk,a1s hl hk,a0e K,a0o K,a2M,a3u,BC]
 rw[e]
 simp (disch:=omega) only[NF,a1s hl hk1,isF (kd:=8) (s:=[40]) K1 rfl,Y2 hl hk1,isY K1 a0V,a2o hl hk2,ikY K2 (kd:=1) rfl,a2I K2,F9,a1s hl hk3,isF K3 hr]
 rw[hq]
def RI (p:Nod×Nod)(v:List WK×Str):Prop:=RE p.1 v.1 /\ ∃a,p.2 =⟨52,v.2,0,zT,[],[],a⟩
theorem ne_lit {kd:Int}{s:Str}{rest:List WK}(h:kd=6∨kd=7):NE ((kd,s)::rest):=by
 rcases h with rfl|rfl<;>exact⟨⟨rfl,rfl⟩,fun u hu=>rfl⟩
theorem c3k {x y:Nod}{s:Str}{a b:Int}{r r':List Nod}(h:x.er=y.er)(g:ers r=ers r'):ers ([x,⟨52,s,0,zT,[],[],a⟩]++r)=ers (y ::⟨52,s,0,zT,[],[],b⟩::r'):=a0T h (a0T rfl g)
theorem c4L {n:Nat}{size:Int}{l:List Tok}(hl:l.length<=3000){rest:List WK}{a0:Int}:∀{ps:List (Nod×Nod)} {vs:List (List WK×Str)},a1e RI ps vs -> ∀(p:Nod×Nod) (v:List WK×Str),RI p v -> ∀(m k:Nat) (acc:List Nod) (s:Str) (a:Int),k<=l.length->kt (l.drop k)=iw (v::vs)++rest->200000+40*(l.length-k)+20<=n->ps.length<m->acc.length+2*ps.length<=20000 -> ∃ys,V4 n (d9.fs n) a0 size l m k acc s a=some (.ok (⟨53,[],0,zT,[],acc++ys,a0⟩,((k+(iw (v::vs)).length:Nat):Int)))/\ers ys=ers (fl (p::ps)):=by
 intro ps vs hv
 induction hv with
 | nil =>
  intro p v hp m k acc s a hk K hn hm ha
  obtain⟨m,rfl⟩:∃q,m=q+1:=⟨m-1,by omega⟩
  obtain⟨w,u⟩:=v
  obtain⟨p1,p2⟩:=p
  obtain⟨h1,b,h2⟩:=hp
  simp only at h1 h2
  subst h2
  have K:kt (l.drop k)=w ++((7,u)::rest):=by rw[K];simp[iw]
  have hk1:=Q6 K hk
  have K1:=M5 K
  simp only[List.length_nil]at ha
  obtain⟨y,e,he⟩:=h1 hl hk K (ne_lit (.inr rfl)) (show _<=n by omega) (size:=size)
  refine⟨[y,⟨52,u,0,zT,[],[],M8 l size (k+w.length)⟩],?_,c3k (r:=[]) he rfl⟩
  rw[V4.eq_2,e]
  simp only[NF]
  rw[a1z (by omega) (by simp) (by omega)]
  have hkx:=J7 K1
  simp (disch:=omega) only[NF,Q0 hl hk1,a0n hl hk1,ikF (kd:=6) K1 rfl,a5U hl hk1,ikY (kd:=7) K1 rfl,a2I K1,F9]
  rw[a1z (by simp only[List.length_append,List.length_cons,List.length_nil];omega) (by simp) (by omega)]
  simp only[NF,iw,List.append_assoc]
  have hq:k+w.length+1=k+(w++[((7:Int),u)]).length:=by simp only[List.length_append,List.length_cons,List.length_nil];omega
  rw[hq]
  rfl
 | @cons q v2 ps vs hq2 hv ih =>
  intro p v hp m k acc s a hk K hn hm ha
  simp only[List.length_cons]at hm ha
  obtain⟨m,rfl⟩:∃q,m=q+1:=⟨m-1,by omega⟩
  obtain⟨w,u⟩:=v
  obtain⟨p1,p2⟩:=p
  obtain⟨h1,b,h2⟩:=hp
  simp only at h1 h2
  subst h2
  have K:kt (l.drop k)=w ++((6,u) ::(iw (v2::vs)++rest)):=by rw[K];simp[iw]
  have hk1:=Q6 K hk
  have K1:=M5 K
  have hkx:=J7 K1
  have K2:=N9 K1
  obtain⟨y,e,he⟩:=h1 hl hk K (ne_lit (.inl rfl)) (show _<=n by omega) (size:=size)
  obtain⟨ys,e2,he2⟩:=ih q v2 hq2 m _ (acc++[y]++[⟨52,u,0,zT,[],[],M8 l size (k+w.length)⟩]) u (M8 l size (k+w.length)) hkx K2 (by omega) (by omega) (by simp only[List.length_append,List.length_cons,List.length_nil];omega)
  refine⟨[y,⟨52,u,0,zT,[],[],M8 l size (k+w.length)⟩]++ys,?_,c3k he he2⟩
  rw[V4.eq_2,e]
  simp only[NF]
  rw[a1z (by omega) (by simp) (by omega)]
  simp (disch:=omega) only[NF,Q0 hl hk1,a0n hl hk1,ikY (kd:=6) K1 rfl,a5U hl hk1,a2I K1,F9]
  rw[a1z (by simp only[List.length_append,List.length_cons,List.length_nil];omega) (by simp) (by omega)]
  simp only[NF]
  rw[e2]
  have hq:k+w.length+1+(iw (v2::vs)).length=k+(iw ((w,u)::v2::vs)).length:=by rw[iw];simp only[List.length_append,List.length_cons];omega
  rw[hq]
  simp only[List.append_assoc]
  rfl
theorem c5f {s:Str}{ps:List (Nod×Nod)}{vs:List (List WK×Str)}{a b:Int}(hp:ps ≠ [])(h:a1e RI ps vs)(hx:ps.length<=8000):RA ⟨53,[],0,zT,[],⟨52,s,0,zT,[],[],b⟩::fl ps,a⟩ ((5,s)::iw vs):=by
 intro l size n k rest hl hk K hr hn
 obtain⟨n,rfl⟩:∃q,n=q+1:=⟨n-1,by omega⟩
 have K:kt (l.drop k) =(5,s) ::(iw vs++rest):=K
 have hk1:=J7 K
 have K1:=N9 K
 cases h with
 | nil=>exact absurd rfl hp
 | @cons p v ps vs h1 h2 =>
  simp only[List.length_cons]at hx
  obtain⟨n,rfl⟩:∃q,n=q+1:=⟨n-1,by omega⟩
  obtain⟨ys,e,he⟩:=c4L (n:=n) (size:=size) (a0:=M8 l size k) hl h2 p v h1 n (k+1) [⟨52,s,0,zT,[],[],M8 l size k⟩] s (M8 l size k) hk1 K1 (by omega) (by omega) (by simp only[List.length_cons,List.length_nil];omega)
  have e1:(d9.fs (n+1)).P5 l k size=some (.ok (⟨53,[],0,zT,[],[⟨52,s,0,zT,[],[],M8 l size k⟩]++ys,M8 l size k⟩,((k+1+(iw (v::vs)).length:Nat):Int))):=by
   show Z5 n (d9.fs n) l k size=_
   unfold Z5
   simp (disch:=omega) only[NF,Q0 hl hk,a5U hl hk,ikY (kd:=5) K rfl,a2I K,F9]
   exact e
  refine⟨⟨53,[],0,zT,[],[⟨52,s,0,zT,[],[],M8 l size k⟩]++ys,M8 l size k⟩,?_,er5 (a0T rfl he)⟩
  have hq:k+1+(iw (v::vs)).length=k+((5,s)::iw (v::vs):List WK).length:=by simp only[List.length_cons];omega
  show A7 (n+1) (d9.fs (n+1)) l k size=_
  unfold A7
  simp (decide:=true) (disch:=omega) only[NF,Q0 hl hk,a0n hl hk,a0U hl hk,I6 hl hk,a1s hl hk,a0e K,a0o K,a2M,a3u,BC]
  rw[e1]
  simp only[NF,hq]
end Go.Proofs.YtjhfloacokgdiaaGreatDoor
namespace Go.Proofs.YtjhfloacokgdiaaGreatDoor
open Go Go.Vm
def RT (x:Nod)(w:List WK):Prop:=∀ ⦃l:List Tok⦄ ⦃size:Int⦄ ⦃n k:Nat⦄ ⦃rest:List WK⦄,l.length<=3000->k<=l.length->kt (l.drop k)=w++rest->nx rest 8 [40]=false->30000+40*(l.length-k)<=n -> ∃y,(p9.fs n).H7 l k size=some (.ok (y,((k+w.length:Nat):Int)))/\y.er=x.er
theorem rt_wild  {a:Int}:RT ⟨40,[],0,zT,[],[],a⟩ [(1,[95])]:=by
 intro l size n k rest hl hk K hr hn
 obtain⟨n,rfl⟩:∃q,n=q+1:=⟨n-1,by omega⟩
 have K:kt (l.drop k) =(1,[95])::rest:=K
 refine⟨⟨40,[],0,zT,[],[],M8 l size k⟩,?_,rfl⟩
 show D6 n (p9.fs n) l k size=_
 unfold D6
 simp (decide:=true) (disch:=omega) only[NF,Q0 hl hk,a0n hl hk,a0U hl hk,I6 hl hk,Y2 hl hk,a1s hl hk,a0e K,a0o K,a2M,a3u,BC,F9,List.length_singleton]
theorem rt_bind {s:Str}(hs:s ≠ [95]){a:Int}:RT ⟨41,s,0,zT,[],[],a⟩ [(1,s)]:=by
 intro l size n k rest hl hk K hr hn
 obtain⟨n,rfl⟩:∃q,n=q+1:=⟨n-1,by omega⟩
 have K:kt (l.drop k) =(1,s)::rest:=K
 refine⟨⟨41,s,0,zT,[],[],M8 l size k⟩,?_,rfl⟩
 show D6 n (p9.fs n) l k size=_
 unfold D6
 simp (decide:=true) (disch:=omega) only[NF,Q0 hl hk,a0n hl hk,a0U hl hk,I6 hl hk,Y2 hl hk,a1s hl hk,a0e K,a0o K,a2M,a3u,BC,decide_eq_false hs,a2o hl hk,a2I K,F9,List.length_singleton]
theorem rt_int {s:Str}(hd:b2H s=true){a:Int}:RT ⟨42,[],((a0B s 0:Nat):Int),zT,[],[],a⟩ [(3,s)]:=by
 intro l size n k rest hl hk K hr hn
 obtain⟨n,rfl⟩:∃q,n=q+1:=⟨n-1,by omega⟩
 have K:kt (l.drop k) =(3,s)::rest:=K
 refine⟨⟨42,[],((a0B s 0:Nat):Int),zT,[],[],M8 l size k⟩,?_,rfl⟩
 show D6 n (p9.fs n) l k size=_
 unfold D6
 simp (decide:=true) (disch:=omega) only[NF,Q0 hl hk,a0n hl hk,a0U hl hk,I6 hl hk,Y2 hl hk,a1s hl hk,a0e K,a0o K,a2M,a3u,BC,b9L hl hk,a2I K,atoi,hd,F9,List.length_singleton]
theorem rt_neg {s:Str}(hd:b2H s=true){a:Int}:RT ⟨42,[],w64 (0-((a0B s 0:Nat):Int)),zT,[],[],a⟩ [(8,[45]),(3,s)]:=by
 intro l size n k rest hl hk K hr hn
 obtain⟨n,rfl⟩:∃q,n=q+1:=⟨n-1,by omega⟩
 have K:kt (l.drop k) =(8,[45]) ::(3,s)::rest:=K
 have hk1:=J7 K
 have K1:=N9 K
 refine⟨⟨42,[],w64 (0-((a0B s 0:Nat):Int)),zT,[],[],M8 l size k⟩,?_,rfl⟩
 show D6 n (p9.fs n) l k size=_
 unfold D6
 simp (decide:=true) (disch:=omega) only[NF,Q0 hl hk,a0n hl hk,a0U hl hk,I6 hl hk,Y2 hl hk,a1s hl hk,a0e K,a0o K,a2M,a3u,BC,b9L hl hk1,a0e K1,a2I K1,atoi,hd,F9,List.length_singleton]
 rfl
theorem rt_tru  {a:Int}:RT ⟨43,[],1,zT,[],[],a⟩ [(9,[116,114,117,101])]:=by
 intro l size n k rest hl hk K hr hn
 obtain⟨n,rfl⟩:∃q,n=q+1:=⟨n-1,by omega⟩
 have K:kt (l.drop k) =(9,[116,114,117,101])::rest:=K
 refine⟨⟨43,[],1,zT,[],[],M8 l size k⟩,?_,rfl⟩
 show D6 n (p9.fs n) l k size=_
 unfold D6
 simp (decide:=true) (disch:=omega) only[NF,Q0 hl hk,a0n hl hk,a0U hl hk,I6 hl hk,Y2 hl hk,a1s hl hk,a0e K,a0o K,a2M,a3u,BC,List.length_singleton]
theorem rt_fal  {a:Int}:RT ⟨43,[],0,zT,[],[],a⟩ [(9,[102,97,108,115,101])]:=by
 intro l size n k rest hl hk K hr hn
 obtain⟨n,rfl⟩:∃q,n=q+1:=⟨n-1,by omega⟩
 have K:kt (l.drop k) =(9,[102,97,108,115,101])::rest:=K
 refine⟨⟨43,[],0,zT,[],[],M8 l size k⟩,?_,rfl⟩
 show D6 n (p9.fs n) l k size=_
 unfold D6
 simp (decide:=true) (disch:=omega) only[NF,Q0 hl hk,a0n hl hk,a0U hl hk,I6 hl hk,Y2 hl hk,a1s hl hk,a0e K,a0o K,a2M,a3u,BC,List.length_singleton]
theorem rt_text {s:Str}{a:Int}:RT ⟨44,s,0,zT,[],[],a⟩ [(4,s)]:=by
 intro l size n k rest hl hk K hr hn
 obtain⟨n,rfl⟩:∃q,n=q+1:=⟨n-1,by omega⟩
 have K:kt (l.drop k) =(4,s)::rest:=K
 refine⟨⟨44,s,0,zT,[],[],M8 l size k⟩,?_,rfl⟩
 show D6 n (p9.fs n) l k size=_
 unfold D6
 simp (decide:=true) (disch:=omega) only[NF,Q0 hl hk,a0n hl hk,a0U hl hk,I6 hl hk,Y2 hl hk,a1s hl hk,a0e K,a0o K,a2M,a3u,BC,a5U hl hk,a2I K,F9,List.length_singleton]
theorem rt_case0 {s:Str}{a:Int}:RT ⟨45,s,0,zT,[],[],a⟩ [(8,[46]),(1,s)]:=by
 intro l size n k rest hl hk K hr hn
 obtain⟨n,rfl⟩:∃q,n=q+1:=⟨n-1,by omega⟩
 have K:kt (l.drop k) =(8,[46]) ::(1,s)::rest:=K
 have hk1:=J7 K
 have K1:=N9 K
 have hk2:=J7 K1
 have K2:=N9 K1
 refine⟨⟨45,s,0,zT,[],[],M8 l size k⟩,?_,rfl⟩
 show D6 n (p9.fs n) l k size=_
 unfold D6
 simp (decide:=true) (disch:=omega) only[NF,Q0 hl hk,a0n hl hk,a0U hl hk,I6 hl hk,Y2 hl hk,a1s hl hk,a0e K,a0o K,a2M,a3u,BC,a2o hl hk1,a0e K1,a2I K1,F9,I6 hl hk2,isF K2 hr,List.length_singleton]
 rfl
theorem c3L {r:List (List WK)}{rest:List WK}:nx (cm r ++((8,[41])::rest)) 8 [40]=false:=b96 rfl rfl
theorem pat_lp {n:Nat}{size:Int}{l:List Tok}(hl:l.length<=3000){rest:List WK}:∀{xs:List Nod} {vs:List (List WK)},a1e RT xs vs -> ∀(m k:Nat) (acc:List Nod),k<=l.length->kt (l.drop k)=cm vs ++((8,[41])::rest)->30000+40*(l.length-k)<=n->xs.length<m->acc.length+xs.length<=9000 -> ∃ys,U2 n (p9.fs n) size l m k acc=some (.brk (((k+(cm vs).length:Nat):Int),acc++ys))/\ers ys=ers xs:=by
 intro xs vs hv
 induction hv with
 | nil =>
  intro m k acc hk K hn hm ha
  obtain⟨m,rfl⟩:∃q,m=q+1:=⟨m-1,by omega⟩
  have K:kt (l.drop k) =(8,[41])::rest:=K
  refine⟨[],?_,rfl⟩
  rw[U2.eq_2,I6 hl hk,isF (kd:=8) (s:=[44]) K rfl]
  simp[cm]
 | @cons x w xs vs hg hv ih =>
  intro m k acc hk K hn hm ha
  simp only[List.length_cons]at hm ha
  obtain⟨m,rfl⟩:∃q,m=q+1:=⟨m-1,by omega⟩
  rw[a3B,List.cons_append,List.append_assoc]at K
  have hk1:=J7 K
  have K1:=N9 K
  have hk2:=Q6 K1 hk1
  have K2:=M5 K1
  obtain⟨y,e,he⟩:=hg hl hk1 K1 c3L (show _<=n by omega) (size:=size)
  obtain⟨ys,e2,he2⟩:=ih m _ (acc++[y]) hk2 K2 (by omega) (by omega) (by simp only[List.length_append,List.length_cons,List.length_nil];omega)
  refine⟨y::ys,?_,a0T he he2⟩
  rw[U2.eq_2,I6 hl hk,isY K a0V]
  simp only[NF]
  rw[e]
  simp only[NF]
  rw[a1z (by omega) (by simp) (by omega)]
  simp only[NF]
  rw[e2,List.append_assoc]
  have hq:k+1+w.length+(cm vs).length=k+(cm (w::vs)).length:=by rw[a3B];simp only[List.length_append,List.length_cons];omega
  rw[hq];rfl
theorem rt_case1 {s:Str}{xs:List Nod}{vs:List (List WK)}{a:Int}(hx0:xs ≠ [])(h:a1e RT xs vs)(hx:xs.length<=8000):RT ⟨45,s,0,zT,[],xs,a⟩ ((8,[46]) ::(1,s)::cw vs):=by
 intro l size n k rest hl hk K hr hn
 obtain⟨n,rfl⟩:∃q,n=q+1:=⟨n-1,by omega⟩
 have K:kt (l.drop k) =(8,[46]) ::(1,s) ::(8,[40]) ::(jo vs ++((8,[41])::rest)):=by rw[K];simp[cw]
 have hk1:=J7 K
 have K1:=N9 K
 have hk2:=J7 K1
 have K2:=N9 K1
 have hk3:=J7 K2
 have K3:=N9 K2
 cases h with
 | nil=>exact absurd rfl hx0
 | @cons x w xs vs h1 h2 =>
  rw[a9I,List.append_assoc]at K3
  simp only[List.length_cons]at hx
  have hk4:=Q6 K3 hk3
  have K4:=M5 K3
  obtain⟨y,e,he⟩:=h1 hl hk3 K3 c3L (show _<=n by omega) (size:=size)
  obtain⟨ys,e2,he2⟩:=pat_lp (size:=size) (n:=n) hl h2 n _ [y] hk4 K4 (by omega) (by omega) (by simp only[List.length_cons,List.length_nil];omega)
  have hk5:=Q6 K4 hk4
  have K5:=M5 K4
  refine⟨⟨45,s,0,zT,[],y::ys,M8 l size k⟩,?_,er5 (a0T he he2)⟩
  have hq:k+1+1+1+w.length+(cm vs).length+1=k+((8,[46]) ::(1,s)::cw (w::vs):List WK).length:=by unfold cw;rw[a9I];simp only[List.length_append,List.length_cons,List.length_nil];omega
  show D6 n (p9.fs n) l k size=_
  unfold D6
  simp (decide:=true) (disch:=omega) only[NF,Q0 hl hk,a0n hl hk,a0U hl hk,I6 hl hk,Y2 hl hk,a1s hl hk,a0e K,a0o K,a2M,a3u,BC,a2o hl hk1,a0e K1,a2I K1,F9,I6 hl hk2,a0o K2]
  rw[e]
  simp only[NF]
  rw[a1z (by simp) (by simp) (by omega)]
  simp only[NF,List.nil_append]
  rw[e2]
  simp only[NF,Y2 hl hk5,isY K5 a0V,hq]
  rfl
theorem rt_read {x:Nod}{w:List WK}(h:RT x w){l:List Tok}{size:Int}{n k:Nat}{rest:List WK}(hl:l.length<=3000)(hk:k<=l.length)(K:kt (l.drop k)=w++rest)(hr:nx rest 8 [40]=false)(hn:200000<=n):∃y,H7 n l k size=some (.ok (y,((k+w.length:Nat):Int)))/\y.er=x.er:=h hl hk K hr (by omega)
def pmw (n:Int):List WK:=cond (decide (n=1)) [(9,[105,110,111,117,116])] (cond (decide (n=2)) [(9,[99,111,110,115,117,109,101])] [])
def RM (V:Int->Str->Prop)(x:Nod)(w:List WK):Prop:=∃s n t a,x =⟨10,s,n,t,[],[],a⟩/\(n=0∨n=1∨n=2)/\GT V false t/\t.sz<=40000/\w=pmw n ++((1,s) ::(8,[58])::W t)
theorem nt_cm {r:List (List WK)}{rest:List WK}:NT false (cm r ++((8,[41])::rest)):=⟨b96 rfl rfl,.inl (b96 rfl rfl)⟩
theorem c0e {V:Int->Str->Prop}{x:Nod}{w:List WK}(h:RM V x w){n m k:Nat}{size:Int}{l:List Tok}(hl:l.length<=3000)(hk:k<=l.length){acc:List Nod}{vs:List (List WK)}{rest:List WK}(K:kt (l.drop k)=w ++(cm vs ++((8,[41])::rest)))(hn:200000<=n)(ha:acc.length<=9000):∃y,y.er=x.er/\U0 n size l (m+1) acc k =(A8 [44] l ((k+w.length:Nat):Int) size).bind fun(r17,at18)=>cond (!r17) (some (.brk (acc++[y],at18))) (U0 n size l m (acc++[y]) at18):=by
 obtain⟨s,o,t,a,rfl,ho,ht,hz,rfl⟩:=h
 refine⟨⟨10,s,o,t,[],[],M8 l size k⟩,rfl,?_⟩
 rw[U0.eq_2]
 rcases ho with rfl|rfl|rfl
 ·have K:kt (l.drop k) =(1,s) ::(8,[58]) ::(W t ++(cm vs ++((8,[41])::rest))):=by rw[K];simp[pmw]
  have hk1:=J7 K
  have K1:=N9 K
  have hk2:=J7 K1
  have K2:=N9 K1
  have e:=b2p (size:=size) (n:=n) ht hz hn hl hk2 K2 nt_cm
  have hq:k+1+1+(W t).length=k+(pmw 0 ++((1,s) ::(8,[58])::W t)).length:=by simp[pmw];omega
  simp (decide:=true) (disch:=omega) only[NF,Q0 hl hk,a0U hl hk,a0o K,a2M,a3u,BC,a2o hl hk,a0e K,a2I K,F9,Y2 hl hk1,a0o K1]
  rw[e]
  simp only[NF]
  rw[a1z (by omega) (by simp) (by omega),hq]
  rfl
 ·have K:kt (l.drop k) =(9,[105,110,111,117,116]) ::(1,s) ::(8,[58]) ::(W t ++(cm vs ++((8,[41])::rest))):=by rw[K];simp[pmw]
  have hk0:=J7 K
  have K0:=N9 K
  have hk1:=J7 K0
  have K1:=N9 K0
  have hk2:=J7 K1
  have K2:=N9 K1
  have e:=b2p (size:=size) (n:=n) ht hz hn hl hk2 K2 nt_cm
  have hq:k+1+1+1+(W t).length=k+(pmw 1 ++((1,s) ::(8,[58])::W t)).length:=by simp[pmw];omega
  simp (decide:=true) (disch:=omega) only[NF,Q0 hl hk,a0U hl hk,a0o K,a2M,a3u,BC,a2o hl hk0,a0e K0,a2I K0,F9,Y2 hl hk1,a0o K1]
  rw[e]
  simp only[NF]
  rw[a1z (by omega) (by simp) (by omega),hq]
  rfl
 ·have K:kt (l.drop k) =(9,[99,111,110,115,117,109,101]) ::(1,s) ::(8,[58]) ::(W t ++(cm vs ++((8,[41])::rest))):=by rw[K];simp[pmw]
  have hk0:=J7 K
  have K0:=N9 K
  have hk1:=J7 K0
  have K1:=N9 K0
  have hk2:=J7 K1
  have K2:=N9 K1
  have e:=b2p (size:=size) (n:=n) ht hz hn hl hk2 K2 nt_cm
  have hq:k+1+1+1+(W t).length=k+(pmw 2 ++((1,s) ::(8,[58])::W t)).length:=by simp[pmw];omega
  simp (decide:=true) (disch:=omega) only[NF,Q0 hl hk,a0U hl hk,a0o K,a2M,a3u,BC,a2o hl hk0,a0e K0,a2I K0,F9,Y2 hl hk1,a0o K1]
  rw[e]
  simp only[NF]
  rw[a1z (by omega) (by simp) (by omega),hq]
  rfl
theorem c4U {V:Int->Str->Prop}{n:Nat}{size:Int}{l:List Tok}(hl:l.length<=3000){rest:List WK}(hn:200000<=n):∀{xs:List Nod} {vs:List (List WK)},a1e (RM V) xs vs -> ∀(x:Nod) (w:List WK),RM V x w -> ∀(m k:Nat) (acc:List Nod),k<=l.length->kt (l.drop k)=w ++(cm vs ++((8,[41])::rest))->xs.length<m->acc.length+xs.length<=9000 -> ∃ys,U0 n size l m acc k=some (.brk (acc++ys,((k+(w++cm vs).length:Nat):Int)))/\ers ys=ers (x::xs):=by
 intro xs vs hv
 induction hv with
 | nil =>
  intro x w hg m k acc hk K hm ha
  obtain⟨m,rfl⟩:∃q,m=q+1:=⟨m-1,by omega⟩
  obtain⟨y,he,e⟩:=c0e (size:=size) (m:=m) hg hl hk K hn (by omega:acc.length<=9000)
  have K:kt (l.drop k)=w ++((8,[41])::rest):=K
  refine⟨[y],?_,a9M he⟩
  rw[e]
  simp only[NF,I6 hl (Q6 K hk),isF (kd:=8) (s:=[44]) (M5 K) rfl]
  simp[cm]
 | @cons x2 w2 xs vs hg2 hv ih =>
  intro x w hg m k acc hk K hm ha
  simp only[List.length_cons]at hm ha
  obtain⟨m,rfl⟩:∃q,m=q+1:=⟨m-1,by omega⟩
  obtain⟨y,he,e⟩:=c0e (size:=size) (m:=m) hg hl hk K hn (by omega:acc.length<=9000)
  rw[a3B,List.cons_append,List.append_assoc]at K
  have hk1:=Q6 K hk
  have K1:=M5 K
  have hk2:=J7 K1
  have K2:=N9 K1
  obtain⟨ys,e2,he2⟩:=ih x2 w2 hg2 m _ (acc++[y]) hk2 K2 (by omega) (by simp only[List.length_append,List.length_cons,List.length_nil];omega)
  refine⟨y::ys,?_,a0T he he2⟩
  rw[e]
  simp only[NF,I6 hl hk1,isY K1 a0V]
  rw[e2,List.append_assoc]
  have hq:k+w.length+1+(w2++cm vs).length=k+(w++cm (w2::vs)).length:=by rw[a3B];simp only[List.length_append,List.length_cons];omega
  rw[hq];rfl
theorem c5g {V:Int->Str->Prop}{xs:List Nod}{vs:List (List WK)}(h:a1e (RM V) xs vs)(hx:xs.length<=8000){l:List Tok}{size:Int}{n k:Nat}{rest:List WK}(hl:l.length<=3000)(hk:k<=l.length)(K:kt (l.drop k)=cw vs++rest)(hn:200000<=n):∃ys,a0q n l k size=some (.ok (ys,((k+(cw vs).length:Nat):Int)))/\ers ys=ers xs/\ys.length<=10000:=by
 have K:kt (l.drop k) =(8,[40]) ::(jo vs ++((8,[41])::rest)):=by rw[K];simp[cw]
 have hk1:=J7 K
 have K1:=N9 K
 unfold a0q
 cases h with
 | nil =>
  have K1:kt (l.drop (k+1)) =(8,[41])::rest:=K1
  refine⟨[],?_,rfl,by simp⟩
  simp only[NF,Y2 hl hk,isY K a0V,I6 hl hk1,isY K1 a0V]
  rfl
 | @cons x w xs vs h1 h2 =>
  rw[a9I,List.append_assoc]at K1
  simp only[List.length_cons]at hx
  obtain⟨ys,e,he⟩:=c4U (size:=size) (n:=n) hl hn h2 x w h1 n (k+1) [] hk1 K1 (by omega) (by simp only[List.length_nil];omega)
  have hyl:=a3Y he
  have hne:nx (w ++(cm vs ++((8,[41])::rest))) 8 [41]=false:=by
   obtain⟨s,o,t,a,_,ho,_,_,rfl⟩:=h1
   rcases ho with rfl|rfl|rfl<;>rfl
  have f1:=isF K1 hne
  rw[<-List.append_assoc]at K1
  have hk2:=Q6 K1 hk1
  have K2:=M5 K1
  refine⟨ys,?_,he,by simp only[List.length_cons]at hyl;omega⟩
  have hq:k+1+(w++cm vs).length+1=k+(cw (w::vs)).length:=by unfold cw;rw[a9I];simp only[List.length_append,List.length_cons,List.length_nil];omega
  simp only[NF,Y2 hl hk,isY K a0V,I6 hl hk1,f1]
  rw[e]
  simp only[NF,Y2 hl hk2,isY K2 a0V,hq,List.nil_append]
theorem gt_unit {V:Int->Str->Prop}{t:Typ}(h:t=uT∨GT V false t)(hk:t.kind=4):t=uT:=by
 rcases h with h|h
 ·exact h
 ·cases h with
  | path h =>
   cases h with
   | @base s a h1 h2 =>
    have hk:kindOf s a=4:=hk
    unfold a4H
    rw[hk]
    unfold kindOf at hk
    cases a with
    | nil=>rw[show eqB 4 6=false from a1G (by decide)];rfl
    | cons x r =>
     exfalso
     simp only[show eqB ((x::r).length:Int) 0=false from a1G (by simp;omega),Bool.false_and,cond_false]at hk
     cases h1:(eqB ((x::r).length:Int) 1&&eqS s [65,114,114,97,121])<;>cases h2:(eqB ((x::r).length:Int) 1&&eqS s [87,101,97,107])<;>rw[h1,h2]at hk<;>revert hk<;>decide
   | dot h1 h2=>simp at hk
  | any h=>simp at hk
  | func h1 h2=>simp at hk
theorem c5h {V:Int->Str->Prop}{t:Typ}(h:t=uT∨GT V false t)(hz:t.sz<=40000){l:List Tok}{size:Int}{n k:Nat}{rest:List WK}(hl:l.length<=3000)(hk:k<=l.length)(K:kt (l.drop k)=rsw t++rest)(hr:NT false rest)(hr2:nx rest 8 [45,62]=false)(hn:200000<=n):a0r n l k size=some (.ok (t,((k+(rsw t).length:Nat):Int))):=by
 unfold a0r
 cases hk4:eqB t.kind 4
 ·have hg:GT V false t:=by
   rcases h with rfl|h
   ·rw[a0C rfl]at hk4;cases hk4
   ·exact h
  have er:rsw t =(8,[45,62])::W t:=by unfold rsw;rw[hk4];rfl
  rw[er]at K ⊢
  have K:kt (l.drop k) =(8,[45,62]) ::(W t++rest):=K
  have hk1:=J7 K
  have e:=b2p (size:=size) (n:=n) hg hz hn hl hk1 (N9 K) hr
  simp only[NF,I6 hl hk,isY K a0V]
  rw[e]
  have hq:k+1+(W t).length=k+((8,[45,62])::W t:List WK).length:=by simp only[List.length_cons];omega
  simp only[NF,hq]
 ·have ht:=gt_unit h (eqB_i hk4)
  subst ht
  have er:rsw uT=[]:=by unfold rsw;rw[hk4];rfl
  rw[er]at K ⊢
  have K:kt (l.drop k)=rest:=K
  simp only[NF,I6 hl hk,isF K hr2]
  rfl
end Go.Proofs.YtjhfloacokgdiaaGreatDoor
