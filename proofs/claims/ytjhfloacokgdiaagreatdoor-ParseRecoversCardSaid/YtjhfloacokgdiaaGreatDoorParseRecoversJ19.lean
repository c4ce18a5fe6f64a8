/- Texts of ParseRecovers, joined. -/
import Derived.Test.YtjhfloacokgdiaaGreatDoorParseRecoversJ18
set_option maxRecDepth 100000
set_option maxHeartbeats 20000000
set_option linter.all false
namespace Go.Proofs.YtjhfloacokgdiaaGreatDoor
open Go Go.Vm Pr
variable {b:Bool} {kd size:Int} {ds:List Str} {l:List Tok} {a r:List WK} {k n:Nat} {s:Str} {t:Typ} {p:WK}
theorem eqB_i {a b:Int}(h:eqB a b=true):a=b:=by simpa [eqB]using h
theorem b8X {a b:Str}(h:eqS a b=true):a=b:=by simpa [eqS]using h
def kt (l:List Tok):List WK:=l.map fun t=>(t.kind,t.text)
theorem b7j (h:kt (l.drop k)=p::r):k+1<=l.length/\(a3x l k).kind=p.1/\(a3x l k).text=p.2/\kt (l.drop (k+1))=r:=by
 have hk:k<l.length:=by
  rcases Nat.lt_or_ge k l.length with h1|h1
  ·exact h1
  ·rw[List.drop_eq_nil_of_le h1]at h;cases h
 rw[List.drop_eq_getElem_cons hk]at h;simp only[kt,List.map_cons,List.cons.injEq]at h;obtain⟨h1,h2⟩:=h;unfold a3x;rw[List.getElem?_eq_getElem hk];exact⟨hk,by rw[<-h1];rfl,by rw[<-h1];rfl,h2⟩
theorem a0G {b:List WK}(h:kt (l.drop k)=a++b)(hk:k<=l.length):k+a.length<=l.length:=by
 have:=congrArg List.length h;simp only[kt,List.length_map,List.length_drop,List.length_append]at this;omega
theorem X4 {b:List WK}(h:kt (l.drop k)=a++b):kt (l.drop (k+a.length))=b:=by
 have e:kt (l.drop (k+a.length)) =(kt (l.drop k)).drop a.length:=by simp[kt,List.drop_drop]
 rw[e,h,List.drop_left]
def nx (r:List WK)(kd:Int)(s:Str):Bool:=match r with
 | []=>false
 | p::_=>decide (p.1=kd)&&decide (p.2=s)
def nk (r:List WK)(kd:Int):Bool:=match r with
 | []=>false
 | p::_=>decide (p.1=kd)
theorem a2I (h:kt (l.drop k)=r)(kd:Int):isK l kd k=nk r kd:=by
 unfold isK;cases r with
 | nil =>
  have:l.length<=k:=by simpa [kt]using h
  rw[decide_eq_false (by omega)];rfl
 | cons p r =>
  obtain⟨h1,h2,_⟩:=b7j h;rw[decide_eq_true (by omega),h2,a9m];rfl
theorem a2h (h:kt (l.drop k)=r)(kd:Int)(s:Str):isT l kd s k=nx r kd s:=by
 unfold isT;rw[a2I h];cases r with
 | nil=>rfl
 | cons p r =>
  obtain⟨_,_,h3,_⟩:=b7j h;rw[h3,b6Y];rfl
theorem isF (h:kt (l.drop k)=r)(hn:nx r kd s=false):isT l kd s k=false:=by rw[a2h h,hn]
theorem isY (h:kt (l.drop k)=r)(hn:nx r kd s=true):isT l kd s k=true:=by rw[a2h h,hn]
theorem ikF (h:kt (l.drop k)=r)(hn:nk r kd=false):isK l kd k=false:=by rw[a2I h,hn]
theorem ikY (h:kt (l.drop k)=r)(hn:nk r kd=true):isK l kd k=true:=by rw[a2I h,hn]
theorem a3A:nx ((kd,s)::r) kd s=true:=by simp[nx]
theorem a0H (hl:l.length<=3000)(hk:k<=l.length){op:Int}:C8 op l k size=some (a0i l size k):=by
 unfold C8;rw[b7d hl hk];rfl
theorem a6n (h:kt (l.drop k)=p::r):(a3x l k).text=p.2:=(b7j h).2.2.1
theorem Z7 (h:kt (l.drop k)=p::r):kt (l.drop (k+1))=r:=(b7j h).2.2.2
theorem Y1 (h:kt (l.drop k)=p::r):k+1<=l.length:=(b7j h).1
def cm (vs:List (List WK)):List WK:=vs.flatMap fun w=>(8,[44])::w
theorem a3h (w:List WK)(r:List (List WK)):cm (w::r) =(8,[44]) ::(w++cm r):=by simp[cm]
theorem a7V (w:List WK):∀r:List (List WK),jo (w::r)=w++cm r
 | []=>by simp[jo,cm]
 | u::r=>by
  rw[jo,a7V u r,a3h]
theorem a8O {r:List (List WK)}{rest:List WK}(h:nx rest kd s=false)(hs:nx [(8,[44])] kd s=false):nx (cm r++rest) kd s=false:=by
 cases r with
 | nil=>exact h
 | cons t r=>rw[a3h];exact hs
section
variable {V:Int->Str->Prop}
def dots (b:Typ)(ds:List Str):Typ:=ds.foldl (fun t s=>⟨8,s,0,[t]⟩) b
def fd (ds:List Str):List WK:=ds.flatMap fun d=>[(8,[46]),(2,d)]
theorem b6l (d:Str)(ds:List Str):fd (d::ds) =(8,[46]) ::(2,d)::fd ds:=by simp[fd]
theorem c0o (h:GT V b t):b=true -> ∃s args ds,(∀x∈args,GT V false x)/\t=dots (a5S s args) ds:=by
 induction h with
 | @base s a h1 h2=>exact fun _=>⟨s,a,[],h2,rfl⟩
 | @dot s t h1 h2 ih =>
  intro _;obtain⟨u,args,ds,g1,rfl⟩:=ih rfl;exact⟨u,args,ds++[s],g1,by simp[dots,List.foldl_append]⟩
 | _=>intro h;cases h
theorem b6B (s:Str)(a:List Typ):W (a5S s a) =(2,s)::an (WW a):=by
 rw[b6D];unfold a5S kindOf;simp only;cases h0:eqB (List.length a:Int) 0 with
 | true =>
  have ha:a=[]:=List.length_eq_zero_iff.1 (by have:=eqB_i h0;omega);subst ha;have h1:eqB (List.length ([]:List Typ):Int) 1=false:=a1t (by simp);rw[h1];cases i1:eqS s [73,110,116]with
  | true=>rw[b8X i1];rfl
  | false =>
   cases i2:eqS s [66,111,111,108]with
   | true=>rw[b8X i2];rfl
   | false =>
    cases i3:eqS s [84,101,120,116]with
    | true=>rw[b8X i3];rfl
    | false =>
     cases i4:eqS s [85,110,105,116]with
     | true=>rw[b8X i4];rfl
     | false =>
      simp only[Bool.true_and,Bool.false_and,cond_false];rw[a0z (a:=6) rfl];rfl
 | false =>
  simp only[Bool.false_and,cond_false];cases h1:eqB (List.length a:Int) 1 with
  | true =>
   simp only[Bool.true_and];cases i5:eqS s [65,114,114,97,121]with
   | true=>rw[b8X i5];rfl
   | false =>
    cases i6:eqS s [87,101,97,107]with
    | true=>rw[b8X i6];rfl
    | false =>
     simp only[cond_false];rw[a0z (a:=6) rfl];rfl
  | false =>
   simp only[Bool.false_and,cond_false];rw[a0z (a:=6) rfl];rfl
theorem b6C:∀(ds:List Str) (b:Typ),W (dots b ds)=W b++fd ds
 | [],b=>by simp[dots,fd]
 | d::ds,b=>by
  have ih:=b6C ds ⟨8,d,0,[b]⟩;have e:W ⟨8,d,0,[b]⟩=W b++[(8,[46]),(2,d)]:=by rw[b6D];simp[wk,WW,jo]
  show W (dots ⟨8,d,0,[b]⟩ ds)=_;rw[ih,e,b6l];simp
theorem b96:∀(ds:List Str) (b:Typ),(dots b ds).sz=b.sz+ds.length
 | [],b=>rfl
 | d::ds,b=>by
  have ih:=b96 ds ⟨8,d,0,[b]⟩;show(dots ⟨8,d,0,[b]⟩ ds).sz=_;rw[ih,Typ.a3X];simp only[c6x,List.length_cons];omega
theorem c5r (s:Str)(a:List Typ):(a5S s a).sz=1+szT a:=Typ.a3X _
theorem W_func (args:List Typ)(r:Typ):W ⟨10,[],0,args++[r]⟩ =(8,[40]) ::(jo (WW args) ++((8,[41]) ::(8,[45,62])::W r)):=by
 rw[b6D];have e:WW (args++[r])=WW args++[W r]:=by rw[a5n,a5n,List.map_append];rfl
 show wk 10 [] (WW (args++[r]))=_;rw[e];have e1:(WW args++[W r]).length-1 =(WW args).length:=by simp
 unfold wk;simp only[e1,List.take_left',List.drop_left',List.take_left,List.drop_left];rfl
theorem nd_fd {rest:List WK}(h:nx rest 8 [60]=false):nx (fd ds++rest) 8 [60]=false:=by
 cases ds with
 | nil=>exact h
 | cons d r=>rw[b6l];rfl
def NT (b:Bool)(rest:List WK):Prop:=nx rest 8 [60]=false/\(nx rest 8 [46]=false∨b=true /\ ∃s q,rest =(8,[46]) ::(1,s)::q)
def RdT (n:Nat)(t:Typ):Prop:=∀ ⦃l:List Tok⦄ ⦃size:Int⦄ ⦃k:Nat⦄ ⦃rest:List WK⦄,l.length<=3000->k<=l.length->kt (l.drop k)=W t++rest->NT false rest ->(p8.fs n).F4 l k size=some (.ok (t,((k+(W t).length:Nat):Int)))
theorem NT.cm {r:List Typ}{rest:List WK}(h:NT false rest):NT false (cm (WW r)++rest):=by
 refine⟨a8O h.1 rfl,.inl (a8O ?_ rfl)⟩;rcases h.2 with h |⟨h,_⟩
 ·exact h
 ·cases h
theorem NT.f {rest:List WK}(h:NT false rest):nx rest 8 [46]=false:=by
 rcases h.2 with h |⟨h,_⟩
 ·exact h
 ·cases h
theorem tail2 {l:List Tok}{size:Int}(hl:l.length<=3000)(n p:Nat):∀(r:List Typ) (m:Nat) (args:List Typ) (k:Nat) (rest:List WK),(∀x∈r,RdT p x)->k<=l.length->kt (l.drop k)=cm (WW r)++rest->NT false rest->nx rest 8 [44]=false->r.length<m->args.length+r.length<=90000 ->
  a0b n (p8.fs p) size l m args k=some (.brk (args++r,((k+(cm (WW r)).length:Nat):Int)))
 | r,0,args,k,rest,_,_,_,_,_,h,_=>absurd h (by omega)
 | [],m+1,args,k,rest,_,hk,h,h1,h2,_,_=>by
  simp only[a0b];rw[M6 hl hk,isF h h2];simp[cm,WW]
 | t::r,m+1,args,k,rest,hr,hk,h,h1,h2,hm,ha=>by
  rw[WW,a3h,List.cons_append,List.append_assoc]at h;have hk1:=Y1 h;have h3:=Z7 h;simp only[a0b];rw[M6 hl hk,isY h a3A];simp only[Option.bind_some,cond_true];rw[hr t (by simp) hl hk1 h3 h1.cm];simp only[p9];simp only[List.length_cons]at hm ha;rw[a3Z (by omega) (by simp) (by omega)];simp only[Option.bind_some];rw[tail2 hl n p r m (args++[t]) (k+1+(W t).length) rest (fun x hx=>hr x (by simp[hx])) (a0G h3 hk1) (X4 h3) h1 h2 (by omega) (by simp only[List.length_append,List.length_cons,List.length_nil];omega),WW,a3h];simp only[List.length_cons,List.length_append,List.append_assoc,List.cons_append,List.nil_append];congr 3;omega
theorem l5_eq (n:Nat)(Φ:p8)(size:Int)(l:List Tok):∀m args k,a1x n Φ size l m args k=a0b n Φ size l m args k
 | 0,args,k=>rfl
 | m+1,args,k=>by
  unfold a1x a0b;simp only[l5_eq n Φ size l m]
theorem dots2 {l:List Tok}{size:Int}(hl:l.length<=3000){Φ:p8}(n:Nat)(b:Bool):∀(ds:List Str) (m:Nat) (t:Typ) (k:Nat) (rest:List WK),k<=l.length->kt (l.drop k)=fd ds++rest->NT b rest->ds.length<m ->
  a0o n Φ b size l m k t=some (.brk (((k+(fd ds).length:Nat):Int),dots t ds))
 | ds,0,t,k,rest,_,_,_,h=>absurd h (by omega)
 | [],m+1,t,k,rest,hk,h,h1,_=>by
  simp only[a0o];rcases h1.2 with h2 |⟨rfl,s,q,h2⟩
  ·rw[a3Y hl hk,isF h h2];simp[fd,dots]
  ·rw[h2]at h;have h:kt (l.drop k) =(8,[46]) ::(1,s)::q:=h;rw[a3Y hl hk,isY h a3A,is1_v hl hk,ikY (Z7 h) rfl];simp[fd,dots]
 | d::ds,m+1,t,k,rest,hk,h,h1,hm=>by
  rw[b6l,List.cons_append,List.cons_append]at h;have h3:=Z7 h;have hk1:=Y1 h;have hk2:=Y1 h3;have h4:=Z7 h3;simp only[a0o];rw[a3Y hl hk,isY h a3A,is1_v hl hk,ikF h3 rfl];have e:(Option.bind (α:=Bool) ((some true).bind fun r24=>cond r24 (cond b ((some false).bind fun r25=>some (!r25)) (some true)) (some false)) fun x=>some x)=some true:=by cases b<;>rfl
  have e2:((some true).bind fun r24=>cond r24 (cond b ((some false).bind fun r25=>some (!r25)) (some true)) (some false))=some true:=by cases b<;>rfl
  rw[e2];simp only[Option.bind_some,cond_true];rw[H6 (by omega),cap_v hl hk1,ikY h3 rfl];simp only[cond_true,p9,a6n h3];simp only[List.length_cons]at hm;rw[H6 (by omega),dots2 hl n b ds m ⟨8,d,0,[t]⟩ (k+1+1) rest hk2 h4 h1 (by omega),b6l];simp only[List.length_cons,dots,List.foldl_cons];congr 3;omega
theorem path2 (hl:l.length <= 3000) {p:Nat} {args:List Typ} (hn:args.length + ds.length < n) (IH:∀ x ∈ args,RdT p x) {rest:List WK} (hk:k <= l.length) (ha:args.length <= 40000)
    (h:kt (l.drop k)=W (dots (a5S s args) ds)++rest) (hr:NT b rest):a09 n (p8.fs p) b l k size=some (.ok (dots (a5S s args) ds,((k+(W (dots (a5S s args) ds)).length:Nat):Int))):=by
  rw[b6C,b6B,List.cons_append,List.cons_append]at h;have hk1:=Y1 h;have h1:=Z7 h;have hl2:(W (dots (a5S s args) ds)).length=1+(an (WW args)).length+(fd ds).length:=by rw[b6C,b6B];simp;omega
  unfold a09;rw[cap_v hl hk,ikY h rfl,cond_true,a6n h,H6 (by omega)];simp only[p9];have fin:∀ (q:Nat),q <= l.length -> kt (l.drop q) = fd ds ++ rest -> q = k + 1 + (an (WW args)).length ->
      ((a5X s args).bind fun r23=>a0X (α:=Int×Typ) (a0o n (p8.fs p) b size l n q r23) fun(c1y,n550)=>some (.ok (n550,c1y)))=some (.ok (dots (a5S s args) ds,((k+(W (dots (a5S s args) ds)).length:Nat):Int)):Rs (Typ×Int) (Int×Int)):=by
    intro q g1 g2 g3;rw[b7v,Option.bind_some,dots2 hl n b ds n (a5S s args) q rest g1 g2 hr (by omega),hl2,g3];simp only[a0X];congr 3;omega
  cases args with
  | nil =>
    have ea:an (WW ([]:List Typ))=[]:=by simp[WW,an]
    rw[ea]at h1 fin;have h1:kt (l.drop (k+1))=fd ds++rest:=h1;rw[M6 hl hk1,isF h1 (nd_fd hr.1)];simp only[Option.bind_some,cond_false,a0X];exact fin (k+1) hk1 h1 rfl
  | cons t r =>
    have ea:an (WW (t::r)) =(8,[60]) ::(W t++cm (WW r)++[(8,[62])]):=by
      rw[WW,<-a7V];rfl
    rw[ea]at h1 fin;rw[List.cons_append]at h1;rw[M6 hl hk1,isY h1 a3A];simp only[Option.bind_some,cond_true];have hk2:=Y1 h1;have h2:=Z7 h1;have h2:kt (l.drop (k+1+1))=W t ++(cm (WW r) ++((8,[62]) ::(fd ds++rest))):=by rw[h2];simp
    have nd1:NT false ((8,[62]) ::(fd ds++rest)):=⟨rfl,.inl rfl⟩
    rw[IH t (by simp) hl hk2 h2 nd1.cm];simp only[p9];rw[a3Z (by simp) (by simp) (by omega)];simp only[Option.bind_some,List.nil_append,l5_eq];have h3:=X4 h2;have h3k:=a0G h2 hk2;simp only[List.length_cons]at ha hn;rw[tail2 hl n p r n [t] _ _ (fun x hx=>IH x (by simp[hx])) h3k h3 nd1 rfl (by omega) (by simp only[List.length_cons,List.length_nil];omega)];simp only[a7T];have h4:=X4 h3;have h4k:=a0G h3 h3k;rw[a1R hl h4k,isY h4 a3A];simp only[p9,a0X,cond_true];exact fin _ (Y1 h4) (Z7 h4) (by simp only[List.length_cons,List.length_append,List.length_nil];omega)
theorem W_hd (h:GT V b t):∃p r,W t=p::r/\(p.1=2∨b=false/\(p =(9,[97,110,121])∨p =(8,[40]))):=by
 have key:∀{t},GT V true t -> ∃p r,W t=p::r/\p.1=2:=fun h=>by
  obtain⟨s,args,ds,_,rfl⟩:=c0o h rfl;rw[b6C,b6B];exact⟨_,_,rfl,rfl⟩
 cases h with
 | base h1 h2=>obtain⟨p,r,e,h⟩:=key (.base h1 h2);exact⟨p,r,e,.inl h⟩
 | dot h1 h2=>obtain⟨p,r,e,h⟩:=key (.dot h1 h2);exact⟨p,r,e,.inl h⟩
 | path h=>obtain⟨p,r,e,h⟩:=key h;exact⟨p,r,e,.inl h⟩
 | any h=>rw[b6D];exact⟨_,_,rfl,.inr ⟨rfl,.inl rfl⟩⟩
 | func g h=>rw[b6D];exact⟨_,_,rfl,.inr ⟨rfl,.inr rfl⟩⟩
theorem rd:∀(N:Nat) (t:Typ) (n:Nat),t.sz<=N->GT V false t->t.sz<=40000->2*t.sz+6<=n->RdT n t
  | 0,t,n,h,_,_,_=>by have:=t.b4l;omega
  | N+1,t,n,hN,hw,h4,hn=>by
    obtain⟨a,rfl⟩:∃q,n=q+2:=⟨n-2,by omega⟩
    intro l size k rest hl hk hkt hr;show a2a (a+1) (p8.fs (a+1)) l k size=_;unfold a2a;cases hw with
    | path hp =>
      obtain⟨s,args,ds,g,rfl⟩:=c0o hp rfl;have hz:=b96 ds (a5S s args);have hz2:=c5r s args;have hal:=a5H args;have hd0:=hkt;rw[b6C,b6B,List.cons_append,List.cons_append]at hd0;rw[a3c hl hk,isF hd0 rfl];simp only[Option.bind_some,cond_false];rw[M6 hl hk,isF hd0 rfl];simp only[Option.bind_some,Bool.not_false,cond_true,cond_false];have hpa:∀q:Int,(p8.fs (a+1)).O9 false l q size=a09 a (p8.fs a) false l q size:=fun _=>rfl;rw[hpa,path2 hl (by omega) (fun x hx=>rd N x a (by have:=a3w hx;omega) (g x hx) (by have:=a3w hx;omega) (by have:=a3w hx;omega)) hk (by omega) hkt hr];rfl
    | @any s hc =>
      have e:W ⟨9,s,0,[]⟩=[(9,[97,110,121]),(2,s)]:=by rw[b6D];rfl
      rw[e]at hkt;have hkt:kt (l.drop k) =(9,[97,110,121]) ::(2,s)::rest:=hkt;rw[a3c hl hk,isY hkt a3A];simp only[Option.bind_some,cond_true];rw[cap_v hl (Y1 hkt),ikY (Z7 hkt) rfl,cond_true,a6n (Z7 hkt),H6 (by omega),e];rfl
    | @func args r g hr2 =>
      have hz:=Typ.a3X ⟨10,[],0,args++[r]⟩;simp only[b1k,c6x]at hz;have hal:=a5H args;rw[W_func]at hkt ⊢;have h0:=hkt;rw[List.cons_append]at h0;rw[a3c hl hk,isF h0 rfl];simp only[Option.bind_some,cond_false];rw[M6 hl hk,isY h0 a3A];simp only[Option.bind_some,Bool.not_true,cond_false,cond_true];have hk1:=Y1 h0;have h1:=Z7 h0;have hrR:RdT (a+1) r:=rd N r (a+1) (by omega) hr2 (by omega) (by omega);have fin:∀ (q:Nat),q <= l.length -> kt (l.drop q) = (8,[45,62]) :: (W r ++ rest) -> q = k + 1 + (jo (WW args)).length + 1 ->
          (p9 (o9 [45,62] l q size) (fun at31=>p9 ((p8.fs (a+1)).F4 l at31 size) (fun(r32,at33)=>(app 56 args ([r32]:List Typ)).bind fun l34=>some (.ok ((⟨10,[],0,l34⟩:Typ),at33))) fun(at35,at36)=>some (.pan (at35,at36))) fun(at37,at38)=>some (.pan (at37,at38)))=some (.ok ((⟨10,[],0,args++[r]⟩:Typ),((k+((8,[40]) ::(jo (WW args) ++((8,[41]) ::(8,[45,62])::W r)):List WK).length:Nat):Int)):Rs (Typ×Int) (Int×Int)):=by
        intro q g1 g2 g3;rw[a1R hl g1,isY g2 a3A];simp only[p9,cond_true];rw[hrR hl (Y1 g2) (Z7 g2) hr];simp only;rw[a3Z (by omega) (by simp) (by omega),Option.bind_some,g3];simp only[List.length_cons,List.length_append];congr 3;omega
      cases args with
      | nil =>
        have h1:kt (l.drop (k+1)) =(8,[41]) ::((8,[45,62]) ::(W r++rest)):=by rw[h1];simp[WW,jo]
        rw[M6 hl hk1,isY h1 a3A];simp only[a0X,Option.bind_some,Bool.not_true,cond_false,cond_true];exact fin (k+1+1) (Y1 h1) (Z7 h1) (by simp[WW,jo])
      | cons t r0 =>
        have ej:jo (WW (t::r0))=W t++cm (WW r0):=by rw[WW];exact a7V _ _
        rw[ej]at h1 fin ⊢;have h1:kt (l.drop (k+1))=W t ++(cm (WW r0) ++((8,[41]) ::(8,[45,62]) ::(W r++rest))):=by rw[h1];simp
        obtain⟨p,r1,hp1,hp2⟩:=W_hd (g t (by simp));have hf:nx (W t ++(cm (WW r0) ++((8,[41]) ::(8,[45,62]) ::(W r++rest)))) 8 [41]=false:=by
          rw[hp1];rcases hp2 with h |⟨_,rfl|rfl⟩
          · simp only[List.cons_append,nx];rw[h];rfl
          · rfl
          · rfl
        rw[M6 hl hk1,isF h1 hf];simp only[Option.bind_some,Bool.not_false,cond_true,cond_false];have IH:∀x∈t::r0,RdT (a+1) x:=fun x hx=>rd N x (a+1) (by have:=a3w hx;omega) (g x hx) (by have:=a3w hx;omega) (by have:=a3w hx;omega);have nd1:NT false ((8,[41]) ::(8,[45,62]) ::(W r++rest)):=⟨rfl,.inl rfl⟩
        rw[IH t (by simp) hl hk1 h1 nd1.cm];simp only[p9];rw[a3Z (by simp) (by simp) (by omega)];simp only[Option.bind_some,List.nil_append];have h3:=X4 h1;have h3k:=a0G h1 hk1;simp only[List.length_cons]at hal;rw[tail2 hl (a+1) (a+1) r0 (a+1) [t] _ _ (fun x hx=>IH x (by simp[hx])) h3k h3 nd1 rfl (by omega) (by simp only[List.length_cons,List.length_nil];omega)];simp only[a7T];have h4:=X4 h3;have h4k:=a0G h3 h3k;rw[a1R hl h4k,isY h4 a3A];simp only[p9,a0X,cond_true];exact fin _ (Y1 h4) (Z7 h4) (by simp only[List.length_append];omega)
theorem b7T {rest:List WK}(ht:GT V false t)(hz:t.sz<=40000)(hn:200000<=n)(hl:l.length<=3000)(hk:k<=l.length)(h:kt (l.drop k)=W t++rest)(hr:NT false rest):F4 n l k size=some (.ok (t,((k+(W t).length:Nat):Int))):=rd t.sz t n (Nat.le_refl _) ht hz (by omega) hl hk h hr
theorem c0W {rest:List WK}(ht:GT V true t)(hz:t.sz<=40000)(hn:200000<=n)(hl:l.length<=3000)(hk:k<=l.length)(h:kt (l.drop k)=W t++rest)(hr:NT true rest):O9 n true l k size=some (.ok (t,((k+(W t).length:Nat):Int))):=by
 obtain⟨s,args,ds,g,rfl⟩:=c0o ht rfl;have hz1:=b96 ds (a5S s args);have hz2:=c5r s args;have hal:=a5H args;obtain⟨a,rfl⟩:∃q,n=q+1:=⟨n-1,by omega⟩
 exact path2 hl (by omega) (fun x hx=>rd x.sz x a (Nat.le_refl _) (g x hx) (by have:=a3w hx;omega) (by have:=a3w hx;omega)) hk (by omega) h hr
end
end Go.Proofs.YtjhfloacokgdiaaGreatDoor
namespace Go.Proofs.YtjhfloacokgdiaaGreatDoor
open Go Go.Vm Pr
variable {a kd o:Int} {xs:List Nod} {r v w:List WK} {x y:Nod} {b s:Str}
abbrev PF:=j3
theorem a7O:nk ((a,b)::r) kd=decide (a=kd):=rfl
theorem a6P:nx ((a,b)::r) kd s =(decide (a=kd)&&decide (b=s)):=rfl
theorem BC:(∀b:Bool,(false&&b)=false)/\(∀b:Bool,(true&&b)=b)/\decide True=true/\decide False=false/\(∀(a:Str),decide (a=a)=true):=⟨fun _=>rfl,fun _=>rfl,rfl,rfl,fun _=>by simp⟩
theorem apC:(∀{α:Type} (a b c:List α),a++b++c=a ++(b++c))/\(∀{α:Type} (x:α) (a b:List α),x::a++b=x ::(a++b)) /\ ∀{α:Type} (a:List α),[]++a=a:=⟨List.append_assoc,fun _ _ _=>rfl,fun _=>rfl⟩
theorem lnC:(∀{α:Type} (a b:List α),(a++b).length=a.length+b.length)/\(∀{α:Type} (x:α) (a:List α),(x::a).length=a.length+1) /\ ∀{α:Type},([]:List α).length=0:=⟨fun _ _=>List.length_append,fun _ _=>rfl,rfl⟩
def NL (r:List WK):Prop:=nx r 8 [40]=false
def NP (r:List WK):Prop:=nx r 8 [46]=false/\nx r 8 [40]=false
def NE (r:List WK):Prop:=NP r /\ ∀s,OP s->nx r 8 s=false
def T1 (_:List WK):Prop:=True
def RX (r:Nat)(P:List WK->Prop)(F:PF->List Tok->Int->Int->Option (Rs (Nod×Int) (o6×Int)))(x:Nod)(w:List WK):Prop:=∀ ⦃l:List Tok⦄ ⦃size:Int⦄ ⦃n k:Nat⦄ ⦃rest:List WK⦄,l.length<=3000->k<=l.length->kt (l.drop k)=w++rest->P rest->200000+40*(l.length-k)+r<=n -> ∃y,F (j3.fs n) l k size=some (.ok (y,((k+w.length:Nat):Int)))/\y.er=x.er
abbrev RE:=RX 20 NE j3.G9
abbrev RU:=RX 13 NP j3.P8
abbrev RA:=RX 10 T1 j3.N7
abbrev RAN:=RX 10 NL j3.N7
def RL (x:Nod)(w:List WK):Prop:=∀ ⦃l:List Tok⦄ ⦃size:Int⦄ ⦃n k:Nat⦄ ⦃rest:List WK⦄,l.length<=3000->k<=l.length->kt (l.drop k)=w++rest->NL rest->200000+40*(l.length-k)+11<=n -> ∃y b m n',n=n'+1/\l.length<m+(k+w.length)/\(j3.Q9 (j3.fs n) l k size=M0 n' (j3.fs n') size l m b ((k+w.length:Nat):Int) y)/\y.er=x.er
theorem RA.n (h:RA x w):RAN x w:=fun l size n k rest hl hk K hr hn=>h hl hk K trivial hn
theorem rl_of (h:RAN x w)(hw:w ≠ []):RL x w:=by
 intro l size n k rest hl hk K hr hn;obtain⟨n,rfl⟩:∃q,n=q+1:=⟨n-1,by omega⟩
 obtain⟨y,e,he⟩:=h hl hk K hr (show _<=n by omega) (size:=size);have hw:=List.length_pos_iff.2 hw;refine⟨y,isK l 1 k,n,n,rfl,by omega,?_,he⟩;show Q7 n (j3.fs n) l k size=_;unfold Q7;rw[a2Q hl hk,Option.bind_some];have e:(j3.fs n).N7 l k size=_:=e;rw[e];rfl
theorem er5 {n:Int}{t:Typ}{ts:List Typ}{l l':List Nod}{b:Int}(h:ers l=ers l'):(⟨o,s,n,t,ts,l,a⟩:Nod).er =(⟨o,s,n,t,ts,l',b⟩:Nod).er:=er_mk h
theorem b60 (h:x.er=y.er):ers [x]=ers [y]:=a2g h rfl
theorem ers2 {x' y':Nod}(h:x.er=x'.er)(g:y.er=y'.er):ers [x,y]=ers [x',y']:=a2g h (b60 g)
theorem rl_field (h:RL x w):RL ⟨55,s,0,zT,[],[x],a⟩ (w++[(8,[46]),(1,s)]):=by
 intro l size n k rest hl hk K hr hn;rw[List.append_assoc]at K;obtain⟨y,b,m,n',rfl,hm,e,he⟩:=h hl hk K (show NL ((8,[46]) ::(1,s)::rest)from rfl) hn (size:=size);have K1:kt (l.drop (k+w.length)) =(8,[46]) ::(1,s)::rest:=X4 K;have hk1:=a0G K hk;have K2:=Z7 K1;have K3:=Z7 K2;have hk2:=Y1 K1;have hk3:=Y1 K2;obtain⟨m,rfl⟩:∃q,m=q+1:=⟨m-1,by omega⟩
 have hlen:(w++[((8:Int),([46]:Str)),(1,s)]).length=w.length+2:=by simp
 refine⟨⟨55,s,0,zT,[],[y],y.at_⟩,false,m,n',rfl,by omega,?_,er5 (b60 he)⟩;rw[e,M0.eq_2,M6 hl hk1,isY K1 a3A];have hq:k+w.length+1+1=k+(w++[((8:Int),([46]:Str)),(1,s)]).length:=by omega
 simp (disch:=omega) only[NF,a5L hl hk2,ikY K2 (kd:=1) rfl,a6n K2,H6,a3Y hl hk3,isF K3 hr];rw[hq]
def RGs (r:Nat)(xs:List Nod)(w:List WK):Prop:=∀ ⦃l:List Tok⦄ ⦃size:Int⦄ ⦃n k:Nat⦄ ⦃rest:List WK⦄,l.length<=3000->k<=l.length->kt (l.drop k)=w++rest->200000+40*(l.length-k)+r<=n -> ∃ys,(j3.fs n).O3 l k size=some (.ok (ys,((k+w.length:Nat):Int)))/\ers ys=ers xs/\ys.length<=10000
theorem rl_method (h:RL x w)(g:RGs 9 xs ((8,[40])::v)):RL ⟨57,s,0,zT,[],x::xs,a⟩ (w ++((8,[46]) ::(1,s) ::(8,[40])::v)):=by
 intro l size n k rest hl hk K hr hn;rw[List.append_assoc]at K;obtain⟨y,b,m,n',rfl,hm,e,he⟩:=h hl hk K rfl hn (size:=size);have K1:kt (l.drop (k+w.length)) =(8,[46]) ::(1,s) ::(8,[40]) ::(v++rest):=X4 K;have hk1:=a0G K hk;have K2:=Z7 K1;have K3:=Z7 K2;have hk2:=Y1 K1;have hk3:=Y1 K2;obtain⟨m,rfl⟩:∃q,m=q+1:=⟨m-1,by omega⟩
 obtain⟨ys,e2,he2,hy⟩:=g hl hk3 (show _ =(8,[40])::v++rest from K3) (show _<=n' by omega) (size:=size);refine⟨⟨57,s,0,zT,[],y::ys,y.at_⟩,false,m,n',rfl,by simp only[List.length_append,List.length_cons];omega,?_,er5 (a2g he he2)⟩;rw[e,M0.eq_2,M6 hl hk1,isY K1 a3A];have hq:k+w.length+1+1+((8,([40]:Str))::v:List WK).length=k+(w ++((8,[46]) ::(1,s) ::(8,[40])::v)).length:=by simp only[List.length_append,List.length_cons];omega
 simp (disch:=omega) only[NF,a5L hl hk2,ikY K2 (kd:=1) rfl,a6n K2,H6,a3Y hl hk3,isY K3 a3A];rw[e2];simp only[NF];rw[a3Z (by simp) (by omega) (by omega),hq];rfl
theorem c6o:RA ⟨54,s,0,zT,[],[],a⟩ [(1,s)]:=by
 intro l size n k rest hl hk K hr hn;obtain⟨n,rfl⟩:∃q,n=q+1:=⟨n-1,by omega⟩
 have K:kt (l.drop k) =(1,s)::rest:=K;refine⟨⟨54,s,0,zT,[],[],a0i l size k⟩,?_,rfl⟩;show D7 n (j3.fs n) l k size=_;unfold D7;simp (decide:=true) (disch:=omega) only[NF,a0H hl hk,a2Q hl hk,a3c hl hk,M6 hl hk,a3Y hl hk,a2I K,a2h K,a7O,a6P,BC,a5L hl hk,a6n K,H6,List.length_singleton]
theorem rl_call (g:RGs 9 xs ((8,[40])::v)):RL ⟨56,s,0,zT,[],xs,a⟩ ((1,s) ::(8,[40])::v):=by
 intro l size n k rest hl hk K hr hn;obtain⟨n,rfl⟩:∃q,n=q+1:=⟨n-1,by omega⟩
 have K:kt (l.drop k) =(1,s) ::(8,[40]) ::(v++rest):=K;obtain⟨y,e,he⟩:=c6o (s:=s) (a:=0) hl hk (show kt (l.drop k)=[(1,s)] ++((8,[40]) ::(v++rest))from K) trivial (show _<=n by omega) (size:=size);have e:(j3.fs n).N7 l k size=some (.ok (y,((k+1:Nat):Int))):=e;have hk1:=Y1 K;have K1:=Z7 K;have hys:y.s=s:=er_s he;obtain⟨ys,e2,he2,hy⟩:=g hl hk1 (show _ =(8,[40])::v++rest from K1) (show _<=n by omega) (size:=size);obtain⟨m,rfl⟩:∃q,n=q+1:=⟨n-1,by omega⟩
 refine⟨⟨56,s,0,zT,[],ys,y.at_⟩,false,m,m+1,rfl,by simp only[List.length_append,List.length_cons];omega,?_,er5 he2⟩;show Q7 (m+1) (j3.fs (m+1)) l k size=_;unfold Q7;rw[a2Q hl hk,Option.bind_some,ikY K rfl,e];simp only[NF];have hq:k+1+((8,([40]:Str))::v:List WK).length=k+((1,s) ::(8,[40])::v:List WK).length:=by simp only[List.length_append,List.length_cons];omega
 rw[M0.eq_2,M6 hl hk1,isF K1 rfl];simp (disch:=omega) only[NF,a3Y hl hk1,isY K1 a3A];rw[e2,hq,hys];rfl
theorem b7S (h:RE x w):RA x ((8,[40]) ::(w++[(8,[41])])):=by
 intro l size n k rest hl hk K hr hn;obtain⟨n,rfl⟩:∃q,n=q+1:=⟨n-1,by omega⟩
 have K:kt (l.drop k) =(8,[40]) ::(w ++((8,[41])::rest)):=by rw[K];simp
 have hk1:=Y1 K;have K1:=Z7 K;obtain⟨y,e,he⟩:=h hl hk1 K1 ⟨⟨rfl,rfl⟩,fun s hs=>by
  rcases List.mem_cons.1 hs with rfl|hs
  ·rfl
  ·simp only[List.mem_cons,List.not_mem_nil,or_false]at hs;rcases hs with rfl|rfl|rfl|rfl|rfl|rfl|rfl|rfl|rfl|rfl|rfl|rfl<;>rfl⟩ (show _<=n by omega) (size:=size)
 have K2:=X4 K1;have hk2:=a0G K1 hk1;refine⟨y,?_,he⟩;show D7 n (j3.fs n) l k size=_;unfold D7;have hq:k+1+w.length+1=k+((8,[40]) ::(w++[(8,[41])]):List WK).length:=by simp only[lnC];omega
 simp (decide:=true) (disch:=omega) only[NF,a0H hl hk,a2Q hl hk,a3c hl hk,M6 hl hk,a3Y hl hk,a2I K,a2h K,a7O,a6P,BC];rw[e];simp (decide:=true) (disch:=omega) only[NF,a1R hl hk2,a2h K2,a6P,BC,hq]
theorem rl_apply (h:RE x w)(g:RGs 9 xs ((8,[40])::v)):RL ⟨60,[],0,zT,[],x::xs,a⟩ ((8,[40]) ::(w ++((8,[41]) ::(8,[40])::v))):=by
 intro l size n k rest hl hk K hr hn;obtain⟨n,rfl⟩:∃q,n=q+1:=⟨n-1,by omega⟩
 have K0:kt (l.drop k) =((8,[40]) ::(w++[(8,[41])])) ++((8,[40]) ::(v++rest)):=by rw[K];simp
 obtain⟨y,e,he⟩:=b7S h hl hk K0 trivial (show _<=n by omega) (size:=size);have hk1:=a0G K0 hk;have K1:=X4 K0;have K:kt (l.drop k) =(8,[40]) ::(w ++((8,[41]) ::(8,[40])::v)++rest):=K;have hlen:((8,[40]) ::(w++[(8,[41])]):List WK).length=w.length+2:=by simp
 obtain⟨ys,e2,he2,hy⟩:=g hl hk1 (show _ =(8,[40])::v++rest from K1) (show _<=n by omega) (size:=size);obtain⟨m,rfl⟩:∃q,n=q+1:=⟨n-1,by omega⟩
 refine⟨⟨60,[],0,zT,[],y::ys,y.at_⟩,false,m,m+1,rfl,by simp only[List.length_append,List.length_cons];omega,?_,er5 (a2g he he2)⟩;show Q7 (m+1) (j3.fs (m+1)) l k size=_;unfold Q7;have e:(j3.fs (m+1)).N7 l k size=_:=e;rw[a2Q hl hk,Option.bind_some,ikF K rfl,e];simp only[NF];have hq:k+((8,[40]) ::(w++[(8,[41])]):List WK).length+((8,([40]:Str))::v:List WK).length=k+((8,[40]) ::(w ++((8,[41]) ::(8,[40])::v)):List WK).length:=by simp only[lnC];omega
 rw[M0.eq_2,M6 hl hk1,isF K1 rfl];simp (disch:=omega) only[NF,a3Y hl hk1,isY K1 a3A];rw[e2];simp only[NF];rw[a3Z (by simp) (by omega) (by omega),hq];rfl
theorem ru_of (h:RL x w)(h1:∀r,nx (w++r) 8 [45]=false)(h2:∀r,nx (w++r) 8 [33]=false):RU x w:=by
 intro l size n k rest hl hk K hr hn;obtain⟨n,rfl⟩:∃q,n=q+1:=⟨n-1,by omega⟩
 obtain⟨y,b,m,n',rfl,hm,e,he⟩:=h hl hk K hr.2 (show _<=n by omega) (size:=size);have hk1:=a0G K hk;have K1:=X4 K;obtain⟨m,rfl⟩:∃q,m=q+1:=⟨m-1,by omega⟩
 refine⟨y,?_,he⟩;show a0p (n'+1) (j3.fs (n'+1)) l k size=_;unfold a0p;simp only[NF,a0H hl hk,M6 hl hk,isF K (h1 rest),isF K (h2 rest)];rw[e,M0.eq_2];simp only[NF,M6 hl hk1,isF K1 hr.1,a3Y hl hk1,isF K1 hr.2]
theorem ru_un {c:UInt8}(ho:o=65/\c=33∨o=66/\c=45)(h:RU x w):RU ⟨o,[],0,zT,[],[x],a⟩ ((8,[c])::w):=by
 intro l size n k rest hl hk K hr hn;obtain⟨n,rfl⟩:∃q,n=q+1:=⟨n-1,by omega⟩
 have K:kt (l.drop k) =(8,[c]) ::(w++rest):=K;have hk1:=Y1 K;have K1:=Z7 K;obtain⟨y,e,he⟩:=h hl hk1 K1 hr (show _<=n by omega) (size:=size);refine⟨⟨o,[],0,zT,[],[y],a0i l size k⟩,?_,er5 (b60 he)⟩;show a0p n (j3.fs n) l k size=_;unfold a0p;have hq:k+1+w.length=k+((8,[c])::w:List WK).length:=by simp only[List.length_cons];omega
 rcases ho with⟨rfl,rfl⟩ |⟨rfl,rfl⟩
 ·simp (decide:=true) (disch:=omega) only[NF,a0H hl hk,M6 hl hk,a2h K,a6P,BC];rw[e,hq];rfl
 ·simp (decide:=true) (disch:=omega) only[NF,a0H hl hk,M6 hl hk,a2h K,a6P,BC];rw[e,hq];rfl
variable {a i size:Int} {tb:List G6} {l:List Tok} {v w:List WK} {j k m n:Nat} {x y:Nod} {s:Str}
theorem c5T {Φ:PF}(ht:TB tb)(hl:l.length<=3000)(hk:k<=l.length){rest:List WK}(K:kt (l.drop k)=rest)(hr:∀s,OP s->nx rest 8 s=false)(hn:200000<=n)(hj:j<tb.length):O7 n Φ size tb l (m+1) j i k x=some (.brk (i,(k:Int),x)):=by
 obtain⟨t1,t2⟩:=ht.2 _ (List.getElem_mem hj);have hlv:idx' tb (j:Int)=some tb[j]:=a0k hj;have hc:∀v,J4 n tb[j].ops v=some (decide (v∈tb[j].ops)):=fun v=>a8I (by omega) (by omega);rw[O7.eq_2];rcases Nat.lt_or_ge k l.length with h|h
 ·rw[X6 (show(k:Int)<(l.length:Int)by omega)];have e1:idx' l (k:Int)=some (a3x l k):=a4Y h;simp only[e1,NF,hlv,hc];cases hk8:eqB (a3x l k).kind 8
  ·simp only[NF]
  ·by_cases ho:(a3x l k).text∈tb[j].ops
   ·have h1:=hr _ (t2 _ ho);rw[<-a2h K]at h1;unfold isT isK at h1;rw[decide_eq_true h,hk8,a8J]at h1;cases h1
   ·rw[decide_eq_false ho];simp only[NF]
 ·rw[a0C (show ¬(k:Int)<(l.length:Int)by omega)];simp only[NF]
theorem c0v {n:Nat}{Φ:PF}{size:Int}{tb:List G6}(ht:TB tb){l:List Tok}(hl:l.length<=3000){k:Nat}(hk:k<=l.length){rest:List WK}(K:kt (l.drop k)=rest)(hr:∀s,OP s->nx rest 8 s=false)(hn:200000<=n){x:Nod}:∀(m i:Nat),i<=tb.length->tb.length<m+i->S9 n Φ tb size l m i k x=some (.brk ((k:Int),x))
 | 0,i,h1,h2=>by omega
 | m+1,i,h1,h2=>by
  have ht1:=ht.1;rw[S9.eq_2];rcases Nat.lt_or_ge i tb.length with h|h
  ·have e:w64 (w64 ((tb.length:Int)-1)-(i:Int)) =((tb.length-1-i:Nat):Int):=by rw[a4m (a:=(tb.length:Int)-1) (by omega) (by omega),a4m (by omega) (by omega)];omega
   obtain⟨n',rfl⟩:∃q,n=q+1:=⟨n-1,by omega⟩
   rw[X6 (show(i:Int)<(tb.length:Int)by omega),e,c5T ht hl hk K hr hn (by omega)];simp only[NF];rw[H6 (by omega)];exact c0v ht hl hk K hr hn m (i+1) (by omega) (by omega)
  ·rw[a0C (show ¬(i:Int)<(tb.length:Int)by omega)];simp only[NF]
theorem b6R (ht:TB tb)(hl:l.length<=3000)(hk:k<=l.length){rest:List WK}(K:kt (l.drop k)=rest)(hr:∀s,OP s->nx rest 8 s=false)(hn:200001<=n):(j3.fs n).P6 x tb l k size=some (.ok (x,(k:Int))):=by
 obtain⟨n,rfl⟩:∃q,n=q+1:=⟨n-1,by omega⟩
 have ht1:=ht.1;show a0m n (j3.fs n) x tb l k size=_;unfold a0m;have e:=c0v (Φ:=j3.fs n) (size:=size) (x:=x) ht hl hk K hr (by omega:200000<=n) n 0 (by omega) (by omega);have e:S9 n (j3.fs n) tb size l n 0 k x=_:=e;rw[e];simp only[NF]
theorem l6_op (ht:TB tb)(hl:l.length<=3000)(hk:k<=l.length){rest:List WK}(h:RU y w)(K:kt (l.drop k) =(8,s) ::(w++rest))(hr:NE rest)(hn:200000+40*(l.length-k)<=n)(hj:j<tb.length)(ho:s∈tb[j].ops):∃z,O7 n (j3.fs n) size tb l (m+2) j i k x=some (.brk (i,((k+1+w.length:Nat):Int),z))/\z.er =(⟨64,s,0,zT,[],[x,y],0⟩:Nod).er:=by
 obtain⟨t1,t2⟩:=ht.2 _ (List.getElem_mem hj);have ht1:=ht.1;have hlv:idx' tb (j:Int)=some tb[j]:=a0k hj;have hc:∀v,J4 n tb[j].ops v=some (decide (v∈tb[j].ops)):=fun v=>a8I (by omega) (by omega);have hsub:b2Y tb (((j+1:Nat):Int)) (tb.length:Int)=some (tb.drop (j+1)):=by rw[b4Y (by omega) (Nat.le_refl _),List.take_length]
 have hk1:=Y1 K;have K1:=Z7 K;obtain⟨y',e,he⟩:=h hl hk1 K1 hr.1 (show _<=n by omega) (size:=size);have hk2:=a0G K1 hk1;have K2:=X4 K1;have ec:=b6R (n:=n) (size:=size) (x:=y') (ht.drop (j+1)) hl hk2 K2 hr.2 (by omega);have e1:idx' l (k:Int)=some (a3x l k):=a4Y (by omega);have hkd:(a3x l k).kind=8:=(b7j K).2.1;have htx:(a3x l k).text=s:=a6n K;have e6:=fun z=>c5T (n:=n) (Φ:=j3.fs n) (size:=size) (m:=m) (i:=i) (x:=z) ht hl hk2 K2 hr.2 (by omega) hj;refine⟨⟨64,s,0,zT,[],[x,y'],x.at_⟩,?_,er5 (ers2 rfl he)⟩;rw[O7.eq_2,X6 (show(k:Int)<(l.length:Int)by omega)];simp only[e1,NF,hlv,hc,hkd,htx,a0z (show(8:Int)=8 from rfl),decide_eq_true ho,H6 (show j<=1000000000000 by omega),H6 (show k<=1000000000000 by omega),hsub];rw[e];simp only[NF];rw[ec];simp only[NF];cases tb[j].once
 ·simp only[NF];exact e6 _
 ·rfl
theorem l3_op {n:Nat}{size:Int}{tb:List G6}(ht:TB tb){l:List Tok}(hl:l.length<=3000){k:Nat}(hk:k<=l.length){rest w:List WK}{s:Str}{y:Nod}(h:RU y w)(K:kt (l.drop k) =(8,s) ::(w++rest))(hr:NE rest)(hn:200000+40*(l.length-k)<=n){x:Nod}:∀(m i:Nat),(∃j,∃hj:j<tb.length,j+i<tb.length/\s∈tb[j].ops)->tb.length<m+i -> ∃z,S9 n (j3.fs n) tb size l m i k x=some (.brk (((k+1+w.length:Nat):Int),z))/\z.er =(⟨64,s,0,zT,[],[x,y],0⟩:Nod).er
 | 0,i,⟨j,hj,h1,_⟩,h2=>by omega
 | m+1,i,⟨j,hj,h1,h3⟩,h2=>by
  have ht1:=ht.1;have e:w64 (w64 ((tb.length:Int)-1)-(i:Int)) =((tb.length-1-i:Nat):Int):=by rw[a4m (a:=(tb.length:Int)-1) (by omega) (by omega),a4m (by omega) (by omega)];omega
  have hj2:tb.length-1-i<tb.length:=by omega
  obtain⟨n2,hn2⟩:∃q,n=q+2:=⟨n-2,by omega⟩
  rw[S9.eq_2,X6 (show(i:Int)<(tb.length:Int)by omega),e];by_cases ho:s∈tb[tb.length-1-i].ops
  ·obtain⟨z,e2,he⟩:=l6_op (m:=n2) (i:=(i:Int)) (x:=x) (size:=size) ht hl hk h K hr hn hj2 ho;rw[<-hn2]at e2;have hk1:=Y1 K;have K1:=Z7 K;refine⟨z,?_,he⟩;rw[e2];simp only[NF];rw[H6 (by omega)];exact c0v ht hl (a0G K1 hk1) (X4 K1) hr.2 (by omega) m (i+1) (by omega) (by omega)
  ·obtain⟨t1,t2⟩:=ht.2 _ (List.getElem_mem hj2);have hlv:idx' tb ((tb.length-1-i:Nat):Int)=some tb[tb.length-1-i]:=a0k hj2;have hc:∀v,J4 n tb[tb.length-1-i].ops v=some (decide (v∈tb[tb.length-1-i].ops)):=fun v=>a8I (by omega) (by omega);have hk1:=Y1 K;have e1:idx' l (k:Int)=some (a3x l k):=a4Y (by omega);have hkd:(a3x l k).kind=8:=(b7j K).2.1;have htx:(a3x l k).text=s:=a6n K;have e6:O7 n (j3.fs n) size tb l n ((tb.length-1-i:Nat):Int) i k x=some (.brk ((i:Int),(k:Int),x)):=by
    have:O7 n (j3.fs n) size tb l (n2+1+1) ((tb.length-1-i:Nat):Int) i k x=some (.brk ((i:Int),(k:Int),x)):=by
     rw[O7.eq_2,X6 (show(k:Int)<(l.length:Int)by omega)];simp only[e1,NF,hlv,hc,hkd,htx,a0z (show(8:Int)=8 from rfl),decide_eq_false ho]
    rw[<-hn2]at this;exact this
   rw[e6];simp only[NF];rw[H6 (by omega)];refine l3_op ht hl hk h K hr hn m (i+1) ⟨j,hj,?_,h3⟩ (by omega);rcases Nat.lt_or_ge (j+(i+1)) tb.length with h4|h4
   ·exact h4
   ·exact absurd (show s∈tb[tb.length-1-i].ops by
     have:tb.length-1-i=j:=by omega
     simp only[this];exact h3) ho
abbrev LV:List G6:=[(⟨[[124,124]],false⟩:G6),(⟨[[38,38]],false⟩:G6),(⟨[[61,61],[33,61],[60],[60,61],[62],[62,61]],true⟩:G6),(⟨[[43],[45]],false⟩:G6),(⟨[[42],[47],[37]],false⟩:G6)]
theorem b0g {P:Str->Prop}(h:OP s)(h1:P [124,124])(h2:P [38,38])(h3:P [61,61])(h4:P [33,61])(h5:P [60])(h6:P [60,61])(h7:P [62])(h8:P [62,61])(h9:P [43])(h10:P [45])(h11:P [42])(h12:P [47])(h13:P [37]):P s:=by
 unfold OP at h;simp only[List.mem_cons,List.not_mem_nil,or_false]at h;rcases h with rfl|rfl|rfl|rfl|rfl|rfl|rfl|rfl|rfl|rfl|rfl|rfl|rfl<;>assumption
theorem op_lv (h:OP s):∃j,∃hj:j<LV.length,j+0<LV.length/\s∈LV[j].ops:=by
 refine b0g (P:=fun s=>∃j,∃hj:j<LV.length,j+0<LV.length/\s∈LV[j].ops) h ?_ ?_ ?_ ?_ ?_ ?_ ?_ ?_ ?_ ?_ ?_ ?_ ?_
 ·exact⟨0,by decide,by decide,by decide⟩
 ·exact⟨1,by decide,by decide,by decide⟩
 ·exact⟨2,by decide,by decide,by decide⟩
 ·exact⟨2,by decide,by decide,by decide⟩
 ·exact⟨2,by decide,by decide,by decide⟩
 ·exact⟨2,by decide,by decide,by decide⟩
 ·exact⟨2,by decide,by decide,by decide⟩
 ·exact⟨2,by decide,by decide,by decide⟩
 ·exact⟨3,by decide,by decide,by decide⟩
 ·exact⟨3,by decide,by decide,by decide⟩
 ·exact⟨4,by decide,by decide,by decide⟩
 ·exact⟨4,by decide,by decide,by decide⟩
 ·exact⟨4,by decide,by decide,by decide⟩
theorem re_of (h:RU x w):RE x w:=by
 intro l size n k rest hl hk K hr hn;obtain⟨n,rfl⟩:∃q,n=q+1:=⟨n-1,by omega⟩
 obtain⟨y,e,he⟩:=h hl hk K hr.1 (show _<=n by omega) (size:=size);refine⟨y,?_,he⟩;show a0E n (j3.fs n) l k size=_;unfold a0E;rw[e];simp only[NF,a5c];rw[b6R c5a hl (a0G K hk) (X4 K) hr.2 (by omega)];simp only[NF]
theorem re_bin (ho:OP s)(h:RU x w)(g:RU y v):RE ⟨64,s,0,zT,[],[x,y],a⟩ (w ++((8,s)::v)):=by
 intro l size n k rest hl hk K hr hn;obtain⟨n,rfl⟩:∃q,n=q+1:=⟨n-1,by omega⟩
 have K:kt (l.drop k)=w ++((8,s) ::(v++rest)):=by rw[K];simp
 have hnp:NP ((8,s) ::(v++rest)):=by
  refine b0g (P:=fun s=>NP ((8,s) ::(v++rest))) ho ?_ ?_ ?_ ?_ ?_ ?_ ?_ ?_ ?_ ?_ ?_ ?_ ?_<;>exact⟨rfl,rfl⟩
 obtain⟨y1,e,he⟩:=h hl hk K hnp (show _<=n by omega) (size:=size);have hk1:=a0G K hk;have K1:=X4 K;obtain⟨p,rfl⟩:∃q,n=q+1:=⟨n-1,by omega⟩
 have hk2:=Y1 K1;obtain⟨z,e2,he2⟩:=l3_op (size:=size) (x:=y1) (n:=p) (tb:=LV) c5a hl hk1 g K1 hr (by omega) p 0 (op_lv ho) (by simp only[List.length_cons,List.length_nil];omega);refine⟨z,?_,he2.trans (er5 (ers2 he rfl))⟩;show a0E (p+1) (j3.fs (p+1)) l k size=_;unfold a0E;rw[e];simp only[NF,a5c];have ec:(j3.fs (p+1)).P6 y1 LV l ((k+w.length:Nat):Int) size=some (.ok (z,((k+w.length+1+v.length:Nat):Int))):=by
  show a0m p (j3.fs p) y1 LV l ((k+w.length:Nat):Int) size=_;unfold a0m;have e2:S9 p (j3.fs p) LV size l p 0 ((k+w.length:Nat):Int) y1=_:=e2;rw[e2];simp only[NF]
 have hq:k+w.length+1+v.length=k+(w ++((8,s)::v)).length:=by simp only[List.length_append,List.length_cons];omega
 rw[ec,hq];simp only[NF]
theorem ra_bin (ho:OP s)(h:RU x w)(g:RU y v):RA ⟨64,s,0,zT,[],[x,y],a⟩ ((8,[40]) ::(w ++((8,s) ::(v++[(8,[41])])))):=by
 have:=b7S (re_bin (a:=a) ho h g);rw[List.append_assoc]at this;exact this
def RP (x:Nod)(w:List WK):Prop:=∀ ⦃l:List Tok⦄ ⦃size:Int⦄ ⦃n k:Nat⦄ ⦃rest:List WK⦄,l.length<=3000->k<=l.length->kt (l.drop k)=w++rest->200000<=n -> ∃a o s xs m,l.length<m+(k+w.length)/\a0S n l k size =(a0X (α:=Int×Int×Str×List Nod) (a0L n a size l m ((k+w.length:Nat):Int) o s xs) fun(b8K,op523,s524,l525)=>some (.ok ((⟨op523,s524,0,(⟨0,[],0,[]⟩:Typ),[],l525,a⟩:Nod),b8K)))/\(⟨o,s,0,zT,[],xs,a⟩:Nod).er=x.er
theorem rp_name:RP ⟨54,s,0,zT,[],[],a⟩ [(1,s)]:=by
 intro l size n k rest hl hk K hn;have K:kt (l.drop k) =(1,s)::rest:=K;have hk1:=Y1 K;refine⟨a0i l size k,54,s,[],n,by omega,?_,rfl⟩;unfold a0S;rw[a0H hl hk,a5L hl hk,ikY K rfl,a6n K,H6 (by omega)];rfl
theorem rp_field (h:RP x w):RP ⟨55,s,0,zT,[],[x],a⟩ (w++[(8,[46]),(1,s)]):=by
 intro l size n k rest hl hk K hn;rw[List.append_assoc]at K;obtain⟨b,o,u,xs,m,hm,e,he⟩:=h hl hk K hn (size:=size);have K1:kt (l.drop (k+w.length)) =(8,[46]) ::(1,s)::rest:=X4 K;have hk1:=a0G K hk;have K2:=Z7 K1;have hk2:=Y1 K1;have hk3:=Y1 K2;obtain⟨m,rfl⟩:∃q,m=q+1:=⟨m-1,by omega⟩
 have hq:k+w.length+1+1=k+(w++[((8:Int),([46]:Str)),(1,s)]).length:=by simp only[lnC];omega
 refine⟨b,55,s,[⟨o,u,0,zT,[],xs,b⟩],m,by omega,?_,er5 (b60 he)⟩;rw[e,a0L.eq_2,M6 hl hk1,isY K1 a3A];simp only[NF,a5L hl hk2,ikY K2 (kd:=1) rfl,a6n K2];rw[H6 (by omega),hq]
theorem c6q (h:RP x w){rest:List WK}(hl:l.length<=3000)(hk:k<=l.length)(K:kt (l.drop k)=w++rest)(hr:nx rest 8 [46]=false)(hn:200000<=n):∃y,a0S n l k size=some (.ok (y,((k+w.length:Nat):Int)))/\y.er=x.er:=by
 obtain⟨b,o,u,xs,m,hm,e,he⟩:=h hl hk K hn (size:=size);have hk1:=a0G K hk;obtain⟨m,rfl⟩:∃q,m=q+1:=⟨m-1,by omega⟩
 refine⟨_,?_,he⟩;rw[e,a0L.eq_2,M6 hl hk1,isF (X4 K) hr];simp only[NF]
def RG (x:Nod)(w:List WK):Prop:=(∃p u a,x =⟨62,[],0,zT,[],[p],a⟩/\w =(8,[38])::u/\RP p u)∨RE x w/\(∀r,nx (w++r) 8 [38]=false) /\ ∀r,nx (w++r) 8 [41]=false
theorem RG.ne (h:RG x w):∀r,nx (w++r) 8 [41]=false:=by
 rcases h with⟨p,u,a,rfl,rfl,_⟩ |⟨_,_,h⟩
 ·intro r;rfl
 ·exact h
theorem ne_cm {r:List (List WK)}{p:WK}{rest:List WK}(hp:NE (p::rest)):NE (cm r ++(p::rest)):=by
 cases r with
 | nil=>exact hp
 | cons w r =>
  rw[a3h];exact⟨⟨rfl,rfl⟩,fun s hs=>b0g (P:=fun s=>nx ((8,[44]) ::(w++cm r)++p::rest) 8 s=false) hs rfl rfl rfl rfl rfl rfl rfl rfl rfl rfl rfl rfl rfl⟩
theorem a7A {rest:List WK}(h:s=[41]∨s=[93]∨s=[59]∨s=[123]∨s=[61]):NE ((8,s)::rest):=by
 rcases h with rfl|rfl|rfl|rfl|rfl<;>exact⟨⟨rfl,rfl⟩,fun s hs=>b0g (P:=fun s=>nx _ 8 s=false) hs rfl rfl rfl rfl rfl rfl rfl rfl rfl rfl rfl rfl rfl⟩
theorem args_lp (hl:l.length<=3000){rest:List WK}:∀{xs:List Nod} {vs:List (List WK)},V3 RG xs vs -> ∀(x:Nod) (w:List WK),RG x w -> ∀(m k:Nat) (acc:List Nod),k<=l.length->kt (l.drop k)=w ++(cm vs ++((8,[41])::rest))->200000+40*(l.length-k)+20<=n->xs.length<m->acc.length+xs.length<=9000 -> ∃ys,a0R n (j3.fs n) size l m acc k=some (.brk (acc++ys,((k+(w++cm vs).length:Nat):Int)))/\ers ys=ers (x::xs):=by
 intro xs vs hv;induction hv with
 | nil =>
  intro x w hg m k acc hk K hn hm ha;obtain⟨m,rfl⟩:∃q,m=q+1:=⟨m-1,by omega⟩
  have K:kt (l.drop k)=w ++((8,[41])::rest):=K;have hk1:=a0G K hk;have K1:=X4 K;have hq:k+(w++cm []).length=k+w.length:=by simp[cm]
  rw[hq,a0R.eq_2];rcases hg with⟨p,u,a,rfl,rfl,h⟩ |⟨h,hh,_⟩
  ·have K:kt (l.drop k) =(8,[38]) ::(u ++((8,[41])::rest)):=K;have hkb:=Y1 K;obtain⟨y,e,he⟩:=c6q h (size:=size) (n:=n) hl hkb (Z7 K) rfl (by omega);refine⟨[⟨62,[],0,zT,[],[y],a0i l size k⟩],?_,b60 (er5 (b60 he))⟩;have hq2:k+1+u.length=k+((8,[38])::u:List WK).length:=by simp only[List.length_cons];omega
   simp only[NF,a0H hl hk,M6 hl hk,isY K a3A];rw[e];simp only[NF];rw[a3Z (by omega) (by simp) (by omega),hq2];simp only[NF,M6 hl hk1,isF (kd:=8) (s:=[44]) K1 rfl]
  ·obtain⟨y,e,he⟩:=h hl hk K (a7A (.inl rfl)) (show _<=n by omega) (size:=size);refine⟨[y],?_,b60 he⟩;simp only[NF,a0H hl hk,M6 hl hk,isF K (hh _)];rw[e];simp only[NF];rw[a3Z (by omega) (by simp) (by omega)];simp only[NF,M6 hl hk1,isF (kd:=8) (s:=[44]) K1 rfl]
 | @cons x2 w2 xs vs hg2 hv ih =>
  intro x w hg m k acc hk K hn hm ha;simp only[List.length_cons]at hm ha;obtain⟨m,rfl⟩:∃q,m=q+1:=⟨m-1,by omega⟩
  rw[a3h,List.cons_append,List.append_assoc]at K;have hk1:=a0G K hk;have K1:=X4 K;have hk2:=Y1 K1;have K2:=Z7 K1;rw[a0R.eq_2];have hq:∀k':Nat,k'=k+w.length+1->k'+(w2++cm vs).length=k+(w++cm (w2::vs)).length:=by intro k' e;rw[a3h];simp only[List.length_append,List.length_cons];omega
  rcases hg with⟨p,u,a,rfl,rfl,h⟩ |⟨h,hh,_⟩
  ·have K:kt (l.drop k) =(8,[38]) ::(u++_):=K;have hkb:=Y1 K;obtain⟨y,e,he⟩:=c6q h (size:=size) (n:=n) hl hkb (Z7 K) rfl (by omega);have hq2:k+1+u.length=k+((8,[38])::u:List WK).length:=by simp only[List.length_cons];omega
   obtain⟨ys,e2,he2⟩:=ih x2 w2 hg2 m _ (acc++[⟨62,[],0,zT,[],[y],a0i l size k⟩]) hk2 K2 (by omega) (by omega) (by simp only[lnC];omega);refine⟨⟨62,[],0,zT,[],[y],a0i l size k⟩::ys,?_,a2g (er5 (b60 he)) he2⟩;simp only[NF,a0H hl hk,M6 hl hk,isY K a3A];rw[e];simp only[NF];rw[a3Z (by omega) (by simp) (by omega),hq2];simp only[NF,M6 hl hk1,isY K1 a3A];rw[e2,hq _ rfl,List.append_assoc];rfl
  ·obtain⟨y,e,he⟩:=h hl hk K ⟨⟨rfl,rfl⟩,fun s hs=>b0g (P:=fun s=>nx _ 8 s=false) hs rfl rfl rfl rfl rfl rfl rfl rfl rfl rfl rfl rfl rfl⟩ (show _<=n by omega) (size:=size);obtain⟨ys,e2,he2⟩:=ih x2 w2 hg2 m _ (acc++[y]) hk2 K2 (by omega) (by omega) (by simp only[lnC];omega);refine⟨y::ys,?_,a2g he he2⟩;simp only[NF,a0H hl hk,M6 hl hk,isF K (hh _)];rw[e];simp only[NF];rw[a3Z (by omega) (by simp) (by omega)];simp only[NF,M6 hl hk1,isY K1 a3A];rw[e2,hq _ rfl,List.append_assoc];rfl
theorem rg_args {xs:List Nod}{vs:List (List WK)}(h:V3 RG xs vs)(hx:xs.length<=8000):RGs 9 xs (cw vs):=by
 intro l size n k rest hl hk K hn;obtain⟨n,rfl⟩:∃q,n=q+1:=⟨n-1,by omega⟩
 have K:kt (l.drop k) =(8,[40]) ::(jo vs ++((8,[41])::rest)):=by rw[K];simp[cw]
 have hk1:=Y1 K;have K1:=Z7 K;show ∃ys,a1S n (j3.fs n) l k size=_/\_;unfold a1S;cases h with
 | nil =>
  have K1:kt (l.drop (k+1)) =(8,[41])::rest:=K1;refine⟨[],?_,rfl,by simp⟩;simp only[NF,a1R hl hk,isY K a3A,M6 hl hk1,isY K1 a3A];rfl
 | @cons x w xs vs h1 h2 =>
  rw[a7V,List.append_assoc]at K1;simp only[List.length_cons]at hx;obtain⟨ys,e,he⟩:=args_lp (size:=size) (n:=n) hl h2 x w h1 n (k+1) [] hk1 K1 (by omega) (by omega) (by simp only[List.length_nil];omega);have hyl:=a6s he;rw[<-List.append_assoc]at K1;have hk2:=a0G K1 hk1;have K2:=X4 K1;refine⟨ys,?_,he,by simp only[List.length_cons]at hyl;omega⟩;have hq:k+1+(w++cm vs).length+1=k+(cw (w::vs)).length:=by unfold cw;rw[a7V];simp only[lnC];omega
  simp only[NF,a1R hl hk,isY K a3A,M6 hl hk1,isF K1 (show nx (w++cm vs ++(8,[41])::rest) 8 [41]=false by rw[List.append_assoc];exact h1.ne _)];rw[e];simp only[NF,a1R hl hk2,isY K2 a3A,hq,List.nil_append]
variable {a b size:Int} {xs:List Nod} {l:List Tok} {v:List WK} {n:Nat} {s:Str} {t:Typ}
theorem ra_int (hd:b4x s=true):RA ⟨50,[],((a1h s 0:Nat):Int),zT,[],[],a⟩ [(3,s)]:=by
 intro l size n k rest hl hk K hr hn;obtain⟨n,rfl⟩:∃q,n=q+1:=⟨n-1,by omega⟩
 have K:kt (l.drop k) =(3,s)::rest:=K;refine⟨⟨50,[],((a1h s 0:Nat):Int),zT,[],[],a0i l size k⟩,?_,rfl⟩;show D7 n (j3.fs n) l k size=_;unfold D7;simp (decide:=true) (disch:=omega) only[NF,a0H hl hk,a2Q hl hk,a3c hl hk,M6 hl hk,a3Y hl hk,a2I K,a2h K,a7O,a6P,BC,int_v hl hk,a6n K,atoi,hd,H6,List.length_singleton]
theorem ra_tru :RA ⟨51,[],1,zT,[],[],a⟩ [(9,[116,114,117,101])]:=by
 intro l size n k rest hl hk K hr hn;obtain⟨n,rfl⟩:∃q,n=q+1:=⟨n-1,by omega⟩
 have K:kt (l.drop k) =(9,[116,114,117,101])::rest:=K;refine⟨⟨51,[],1,zT,[],[],a0i l size k⟩,?_,rfl⟩;show D7 n (j3.fs n) l k size=_;unfold D7;simp (decide:=true) (disch:=omega) only[NF,a0H hl hk,a2Q hl hk,a3c hl hk,M6 hl hk,a3Y hl hk,a2I K,a2h K,a7O,a6P,BC,List.length_singleton]
theorem ra_fal :RA ⟨51,[],0,zT,[],[],a⟩ [(9,[102,97,108,115,101])]:=by
 intro l size n k rest hl hk K hr hn;obtain⟨n,rfl⟩:∃q,n=q+1:=⟨n-1,by omega⟩
 have K:kt (l.drop k) =(9,[102,97,108,115,101])::rest:=K;refine⟨⟨51,[],0,zT,[],[],a0i l size k⟩,?_,rfl⟩;show D7 n (j3.fs n) l k size=_;unfold D7;simp (decide:=true) (disch:=omega) only[NF,a0H hl hk,a2Q hl hk,a3c hl hk,M6 hl hk,a3Y hl hk,a2I K,a2h K,a7O,a6P,BC,List.length_singleton]
theorem ra_text:RA ⟨52,s,0,zT,[],[],a⟩ [(4,s)]:=by
 intro l size n k rest hl hk K hr hn;obtain⟨n,rfl⟩:∃q,n=q+1:=⟨n-1,by omega⟩
 have K:kt (l.drop k) =(4,s)::rest:=K;refine⟨⟨52,s,0,zT,[],[],a0i l size k⟩,?_,rfl⟩;show D7 n (j3.fs n) l k size=_;unfold D7;simp (decide:=true) (disch:=omega) only[NF,a0H hl hk,a2Q hl hk,a3c hl hk,M6 hl hk,a3Y hl hk,a2I K,a2h K,a7O,a6P,BC,a8q hl hk,a6n K,H6,List.length_singleton]
theorem ra_cons:RA ⟨61,s,0,zT,[],[],a⟩ [(9,[99,111,110,115,117,109,101]),(1,s)]:=by
 intro l size n k rest hl hk K hr hn;obtain⟨n,rfl⟩:∃q,n=q+1:=⟨n-1,by omega⟩
 have K:kt (l.drop k) =(9,[99,111,110,115,117,109,101]) ::(1,s)::rest:=K;have hk1:=Y1 K;have K1:=Z7 K;have hq:k+1+1=k+[((9:Int),([99,111,110,115,117,109,101]:Str)),(1,s)].length:=rfl;refine⟨⟨61,s,0,zT,[],[],a0i l size k⟩,?_,rfl⟩;show D7 n (j3.fs n) l k size=_;unfold D7;simp (decide:=true) (disch:=omega) only[NF,a0H hl hk,a2Q hl hk,a3c hl hk,M6 hl hk,a3Y hl hk,a2I K,a2h K,a7O,a6P,BC,a5L hl hk1,a2I K1,a6n K1,H6];first|rfl|simp only[NF,b1p]
def RB1 (x:Nod)(w:List WK):Prop:=RE x w /\ ∀r,nx (w++r) 8 [93]=false
theorem atom_lp (hl:l.length<=3000){rest:List WK}:∀{xs:List Nod} {vs:List (List WK)},V3 RB1 xs vs -> ∀(m k:Nat) (acc:List Nod),k<=l.length->kt (l.drop k)=cm vs ++((8,[93])::rest)->200000+40*(l.length-k)<=n->xs.length<m->acc.length+xs.length<=9000 -> ∃ys,a0I n (j3.fs n) size l m k acc=some (.brk (((k+(cm vs).length:Nat):Int),acc++ys))/\ers ys=ers xs:=by
 intro xs vs hv;induction hv with
 | nil =>
  intro m k acc hk K hn hm ha;obtain⟨m,rfl⟩:∃q,m=q+1:=⟨m-1,by omega⟩
  have K:kt (l.drop k) =(8,[93])::rest:=K;refine⟨[],?_,rfl⟩;rw[a0I.eq_2,M6 hl hk,isF (kd:=8) (s:=[44]) K rfl];simp[cm]
 | @cons x w xs vs hg hv ih =>
  intro m k acc hk K hn hm ha;simp only[List.length_cons]at hm ha;obtain⟨m,rfl⟩:∃q,m=q+1:=⟨m-1,by omega⟩
  rw[a3h,List.cons_append,List.append_assoc]at K;have hk1:=Y1 K;have K1:=Z7 K;have hk2:=a0G K1 hk1;have K2:=X4 K1;obtain⟨y,e,he⟩:=hg.1 hl hk1 K1 (ne_cm (a7A (.inr (.inl rfl)))) (show _<=n by omega) (size:=size);obtain⟨ys,e2,he2⟩:=ih m _ (acc++[y]) hk2 K2 (by omega) (by omega) (by simp only[lnC];omega);refine⟨y::ys,?_,a2g he he2⟩;rw[a0I.eq_2,M6 hl hk,isY K a3A];simp only[NF];rw[e];simp only[NF];rw[a3Z (by omega) (by simp) (by omega)];simp only[NF];rw[e2,List.append_assoc];have hq:k+1+w.length+(cm vs).length=k+(cm (w::vs)).length:=by rw[a3h];simp only[List.length_append,List.length_cons];omega
  rw[hq];rfl
theorem ra_list {vs:List (List WK)}(h:V3 RB1 xs vs)(hx:xs.length<=8000):RA ⟨67,[],0,zT,[],xs,a⟩ ((8,[91]) ::(jo vs++[(8,[93])])):=by
 intro l size n k rest hl hk K hr hn;obtain⟨n,rfl⟩:∃q,n=q+1:=⟨n-1,by omega⟩
 have K:kt (l.drop k) =(8,[91]) ::(jo vs ++((8,[93])::rest)):=by rw[K];simp
 have hk1:=Y1 K;have K1:=Z7 K;show ∃y,D7 n (j3.fs n) l k size=_/\_;unfold D7;cases h with
 | nil =>
  have K1:kt (l.drop (k+1)) =(8,[93])::rest:=K1;refine⟨⟨67,[],0,zT,[],[],a0i l size k⟩,?_,rfl⟩;simp (decide:=true) (disch:=omega) only[NF,a0H hl hk,a2Q hl hk,a3c hl hk,M6 hl hk,a3Y hl hk,a2I K,a2h K,a7O,a6P,BC,M6 hl hk1,isY K1 a3A];first|rfl|simp only[NF,b1p]
 | @cons x w xs vs h1 h2 =>
  rw[a7V,List.append_assoc]at K1;simp only[List.length_cons]at hx;have hk2:=a0G K1 hk1;have K2:=X4 K1;obtain⟨y,e,he⟩:=h1.1 hl hk1 K1 (ne_cm (a7A (.inr (.inl rfl)))) (show _<=n by omega) (size:=size);obtain⟨ys,e2,he2⟩:=atom_lp (size:=size) (n:=n) hl h2 n _ [y] hk2 K2 (by omega) (by omega) (by simp only[List.length_cons,List.length_nil];omega);have hk3:=a0G K2 hk2;have K3:=X4 K2;refine⟨⟨67,[],0,zT,[],y::ys,a0i l size k⟩,?_,er5 (a2g he he2)⟩;have hq:k+1+w.length+(cm vs).length+1=k+((8,[91]) ::(jo (w::vs)++[(8,[93])]):List WK).length:=by rw[a7V];simp only[lnC];omega
  simp (decide:=true) (disch:=omega) only[NF,a0H hl hk,a2Q hl hk,a3c hl hk,M6 hl hk,a3Y hl hk,a2I K,a2h K,a7O,a6P,BC,M6 hl hk1,isF K1 (h1.2 _)];rw[e];simp only[NF];rw[a3Z (by simp) (by simp) (by omega)];simp only[NF,List.nil_append];rw[e2];simp only[NF,a1R hl hk3,isY K3 a3A,hq];first|rfl|simp only[NF,b1p]
theorem W_two {V:Int->Str->Prop}(h:GT V true t):∃u r,W t =(2,u)::r:=by
 obtain⟨p,r,e,h⟩:=W_hd h;rcases h with h |⟨h,_⟩
 ·obtain⟨p1,p2⟩:=p;simp only at h;subst h;exact⟨p2,r,e⟩
 ·cases h
theorem ra_make {V:Int->Str->Prop}(ht:GT V true t)(hz:t.sz<=40000)(g:RGs 9 xs ((8,[40])::v)):RA ⟨59,[],0,t,[],xs,a⟩ (W t ++((8,[40])::v)):=by
 intro l size n k rest hl hk K hr hn;obtain⟨n,rfl⟩:∃q,n=q+1:=⟨n-1,by omega⟩
 have K0:kt (l.drop k)=W t ++((8,[40]) ::(v++rest)):=by rw[K];simp
 obtain⟨u,r,ew⟩:=W_two ht;have K:kt (l.drop k) =(2,u) ::(r ++((8,[40]) ::(v++rest))):=by rw[K0,ew];rfl
 have hk1:=a0G K0 hk;have K1:=X4 K0;have e:=c0W (size:=size) (n:=n) ht hz (by omega) hl hk K0 ⟨rfl,.inl rfl⟩;have hwl:0<(W t).length:=by rw[ew];simp
 obtain⟨ys,e2,he2,hy⟩:=g hl hk1 (show _ =(8,[40])::v++rest from K1) (show _<=n by omega) (size:=size);refine⟨⟨59,[],0,t,[],ys,a0i l size k⟩,?_,er5 he2⟩;have hq:k+(W t).length+((8,([40]:Str))::v:List WK).length=k+(W t ++((8,[40])::v)).length:=by simp only[List.length_append];omega
 show D7 n (j3.fs n) l k size=_;unfold D7;simp (decide:=true) (disch:=omega) only[NF,a0H hl hk,a2Q hl hk,a3c hl hk,M6 hl hk,a3Y hl hk,a2I K,a2h K,a7O,a6P,BC];rw[e];simp only[NF,a3Y hl hk1,isY K1 a3A];rw[e2,hq];first|rfl|simp only[NF,b1p]
theorem ra_stat1 {V:Int->Str->Prop}(ht:GT V true t)(hz:t.sz<=40000)(g:RGs 9 xs ((8,[40])::v)):RA ⟨58,s,1,t,[],xs,a⟩ (W t ++((8,[46]) ::(1,s) ::(8,[40])::v)):=by
 intro l size n k rest hl hk K hr hn;obtain⟨n,rfl⟩:∃q,n=q+1:=⟨n-1,by omega⟩
 have K0:kt (l.drop k)=W t ++((8,[46]) ::(1,s) ::(8,[40]) ::(v++rest)):=by rw[K];simp
 obtain⟨u,r,ew⟩:=W_two ht;have K:kt (l.drop k) =(2,u) ::(r ++((8,[46]) ::(1,s) ::(8,[40]) ::(v++rest))):=by rw[K0,ew];rfl
 have hk1:=a0G K0 hk;have K1:=X4 K0;have hk2:=Y1 K1;have K2:=Z7 K1;have hk3:=Y1 K2;have K3:=Z7 K2;have e:=c0W (size:=size) (n:=n) ht hz (by omega) hl hk K0 ⟨rfl,.inr ⟨rfl,_,_,rfl⟩⟩;have hwl:0<(W t).length:=by rw[ew];simp
 obtain⟨ys,e2,he2,hy⟩:=g hl hk3 (show _ =(8,[40])::v++rest from K3) (show _<=n by omega) (size:=size);refine⟨⟨58,s,1,t,[],ys,a0i l size k⟩,?_,er5 he2⟩;have hq:k+(W t).length+1+1+((8,([40]:Str))::v:List WK).length=k+(W t ++((8,[46]) ::(1,s) ::(8,[40])::v)).length:=by simp only[List.length_append,List.length_cons];omega
 show D7 n (j3.fs n) l k size=_;unfold D7;simp (decide:=true) (disch:=omega) only[NF,a0H hl hk,a2Q hl hk,a3c hl hk,M6 hl hk,a3Y hl hk,a2I K,a2h K,a7O,a6P,BC];rw[e];simp (disch:=omega) only[NF,a3Y hl hk1,isF (kd:=8) (s:=[40]) K1 rfl,a1R hl hk1,isY K1 a3A,a5L hl hk2,ikY K2 (kd:=1) rfl,a6n K2,H6,a3Y hl hk3,isY K3 a3A];rw[e2,hq];first|rfl|simp only[NF,b1p]
theorem ra_stat0 {V:Int->Str->Prop}(ht:GT V true t)(hz:t.sz<=40000):RAN ⟨58,s,0,t,[],[],a⟩ (W t++[(8,[46]),(1,s)]):=by
 intro l size n k rest hl hk K hr hn;obtain⟨n,rfl⟩:∃q,n=q+1:=⟨n-1,by omega⟩
 have K0:kt (l.drop k)=W t ++((8,[46]) ::(1,s)::rest):=by rw[K];simp
 obtain⟨u,r,ew⟩:=W_two ht;have K:kt (l.drop k) =(2,u) ::(r ++((8,[46]) ::(1,s)::rest)):=by rw[K0,ew];rfl
 have hk1:=a0G K0 hk;have K1:=X4 K0;have hk2:=Y1 K1;have K2:=Z7 K1;have hk3:=Y1 K2;have K3:=Z7 K2;have e:=c0W (size:=size) (n:=n) ht hz (by omega) hl hk K0 ⟨rfl,.inr ⟨rfl,_,_,rfl⟩⟩;refine⟨⟨58,s,0,t,[],[],a0i l size k⟩,?_,rfl⟩;have hq:k+(W t).length+1+1=k+(W t++[((8:Int),([46]:Str)),(1,s)]).length:=by simp only[lnC];omega
 show D7 n (j3.fs n) l k size=_;unfold D7;simp (decide:=true) (disch:=omega) only[NF,a0H hl hk,a2Q hl hk,a3c hl hk,M6 hl hk,a3Y hl hk,a2I K,a2h K,a7O,a6P,BC];rw[e];simp (disch:=omega) only[NF,a3Y hl hk1,isF (kd:=8) (s:=[40]) K1 rfl,a1R hl hk1,isY K1 a3A,a5L hl hk2,ikY K2 (kd:=1) rfl,a6n K2,H6,b1p,a3Y hl hk3,isF K3 hr];rw[hq]
def RI (p:Nod×Nod)(v:List WK×Str):Prop:=RE p.1 v.1 /\ ∃a,p.2 =⟨52,v.2,0,zT,[],[],a⟩
theorem ne_lit {kd:Int}{rest:List WK}(h:kd=6∨kd=7):NE ((kd,s)::rest):=by
 rcases h with rfl|rfl<;>exact⟨⟨rfl,rfl⟩,fun u hu=>rfl⟩
theorem c5B {x y:Nod}{r r':List Nod}(h:x.er=y.er)(g:ers r=ers r'):ers ([x,⟨52,s,0,zT,[],[],a⟩]++r)=ers (y ::⟨52,s,0,zT,[],[],b⟩::r'):=a2g h (a2g rfl g)
theorem c69 (hl:l.length<=3000){rest:List WK}{a0:Int}:∀{ps:List (Nod×Nod)} {vs:List (List WK×Str)},V3 RI ps vs -> ∀(p:Nod×Nod) (v:List WK×Str),RI p v -> ∀(m k:Nat) (acc:List Nod) (s:Str) (a:Int),k<=l.length->kt (l.drop k)=iw (v::vs)++rest->200000+40*(l.length-k)+20<=n->ps.length<m->acc.length+2*ps.length<=20000 -> ∃ys,a0w n (j3.fs n) a0 size l m k acc s a=some (.ok (⟨53,[],0,zT,[],acc++ys,a0⟩,((k+(iw (v::vs)).length:Nat):Int)))/\ers ys=ers (fl (p::ps)):=by
 intro ps vs hv;induction hv with
 | nil =>
  intro p v hp m k acc s a hk K hn hm ha;obtain⟨m,rfl⟩:∃q,m=q+1:=⟨m-1,by omega⟩
  obtain⟨w,u⟩:=v;obtain⟨p1,p2⟩:=p;obtain⟨h1,b,h2⟩:=hp;simp only at h1 h2;subst h2;have K:kt (l.drop k)=w ++((7,u)::rest):=by rw[K];simp[iw]
  have hk1:=a0G K hk;have K1:=X4 K;simp only[List.length_nil]at ha;obtain⟨y,e,he⟩:=h1 hl hk K (ne_lit (.inr rfl)) (show _<=n by omega) (size:=size);refine⟨[y,⟨52,u,0,zT,[],[],a0i l size (k+w.length)⟩],?_,c5B (r:=[]) he rfl⟩;rw[a0w.eq_2,e];simp only[NF];rw[a3Z (by omega) (by simp) (by omega)];have hkx:=Y1 K1;simp (disch:=omega) only[NF,a0H hl hk1,a2Q hl hk1,ikF (kd:=6) K1 rfl,a8q hl hk1,ikY (kd:=7) K1 rfl,a6n K1,H6];rw[a3Z (by simp only[lnC];omega) (by simp) (by omega)];simp only[NF,iw,List.append_assoc];have hq:k+w.length+1=k+(w++[((7:Int),u)]).length:=by simp only[lnC];omega
  rw[hq];first|rfl|simp only[NF,b1p]
 | @cons q v2 ps vs hq2 hv ih =>
  intro p v hp m k acc s a hk K hn hm ha;simp only[List.length_cons]at hm ha;obtain⟨m,rfl⟩:∃q,m=q+1:=⟨m-1,by omega⟩
  obtain⟨w,u⟩:=v;obtain⟨p1,p2⟩:=p;obtain⟨h1,b,h2⟩:=hp;simp only at h1 h2;subst h2;have K:kt (l.drop k)=w ++((6,u) ::(iw (v2::vs)++rest)):=by rw[K];simp[iw]
  have hk1:=a0G K hk;have K1:=X4 K;have hkx:=Y1 K1;have K2:=Z7 K1;obtain⟨y,e,he⟩:=h1 hl hk K (ne_lit (.inl rfl)) (show _<=n by omega) (size:=size);obtain⟨ys,e2,he2⟩:=ih q v2 hq2 m _ (acc++[y]++[⟨52,u,0,zT,[],[],a0i l size (k+w.length)⟩]) u (a0i l size (k+w.length)) hkx K2 (by omega) (by omega) (by simp only[lnC];omega);refine⟨[y,⟨52,u,0,zT,[],[],a0i l size (k+w.length)⟩]++ys,?_,c5B he he2⟩;rw[a0w.eq_2,e];simp only[NF];rw[a3Z (by omega) (by simp) (by omega)];simp (disch:=omega) only[NF,a0H hl hk1,a2Q hl hk1,ikY (kd:=6) K1 rfl,a8q hl hk1,a6n K1,H6];rw[a3Z (by simp only[lnC];omega) (by simp) (by omega)];simp only[NF];rw[e2];have hq:k+w.length+1+(iw (v2::vs)).length=k+(iw ((w,u)::v2::vs)).length:=by rw[iw];simp only[List.length_append,List.length_cons];omega
  rw[hq];simp only[List.append_assoc];first|rfl|simp only[NF,b1p]
theorem c7w {ps:List (Nod×Nod)}{vs:List (List WK×Str)}(hp:ps ≠ [])(h:V3 RI ps vs)(hx:ps.length<=8000):RA ⟨53,[],0,zT,[],⟨52,s,0,zT,[],[],b⟩::fl ps,a⟩ ((5,s)::iw vs):=by
 intro l size n k rest hl hk K hr hn;obtain⟨n,rfl⟩:∃q,n=q+1:=⟨n-1,by omega⟩
 have K:kt (l.drop k) =(5,s) ::(iw vs++rest):=K;have hk1:=Y1 K;have K1:=Z7 K;cases h with
 | nil=>exact absurd rfl hp
 | @cons p v ps vs h1 h2 =>
  simp only[List.length_cons]at hx;obtain⟨n,rfl⟩:∃q,n=q+1:=⟨n-1,by omega⟩
  obtain⟨ys,e,he⟩:=c69 (n:=n) (size:=size) (a0:=a0i l size k) hl h2 p v h1 n (k+1) [⟨52,s,0,zT,[],[],a0i l size k⟩] s (a0i l size k) hk1 K1 (by omega) (by omega) (by simp only[List.length_cons,List.length_nil];omega);have e1:(j3.fs (n+1)).U6 l k size=some (.ok (⟨53,[],0,zT,[],[⟨52,s,0,zT,[],[],a0i l size k⟩]++ys,a0i l size k⟩,((k+1+(iw (v::vs)).length:Nat):Int))):=by
   show a1e n (j3.fs n) l k size=_;unfold a1e;simp (disch:=omega) only[NF,a0H hl hk,a8q hl hk,ikY (kd:=5) K rfl,a6n K,H6];exact e
  refine⟨⟨53,[],0,zT,[],[⟨52,s,0,zT,[],[],a0i l size k⟩]++ys,a0i l size k⟩,?_,er5 (a2g rfl he)⟩;have hq:k+1+(iw (v::vs)).length=k+((5,s)::iw (v::vs):List WK).length:=by simp only[List.length_cons];omega
  show D7 (n+1) (j3.fs (n+1)) l k size=_;unfold D7;simp (decide:=true) (disch:=omega) only[NF,a0H hl hk,a2Q hl hk,a3c hl hk,M6 hl hk,a3Y hl hk,a2I K,a2h K,a7O,a6P,BC];rw[e1];simp only[NF,hq]
variable {a size:Int} {r vs:List (List WK)} {xs:List Nod} {l:List Tok} {w:List WK} {k n:Nat} {x:Nod} {s:Str} {t:Typ}
def RT (x:Nod)(w:List WK):Prop:=∀ ⦃l:List Tok⦄ ⦃size:Int⦄ ⦃n k:Nat⦄ ⦃rest:List WK⦄,l.length<=3000->k<=l.length->kt (l.drop k)=w++rest->nx rest 8 [40]=false->30000+40*(l.length-k)<=n -> ∃y,(A7.fs n).I7 l k size=some (.ok (y,((k+w.length:Nat):Int)))/\y.er=x.er
theorem rt_wild :RT ⟨40,[],0,zT,[],[],a⟩ [(1,[95])]:=by
 intro l size n k rest hl hk K hr hn;obtain⟨n,rfl⟩:∃q,n=q+1:=⟨n-1,by omega⟩
 have K:kt (l.drop k) =(1,[95])::rest:=K;refine⟨⟨40,[],0,zT,[],[],a0i l size k⟩,?_,rfl⟩;show F5 n (A7.fs n) l k size=_;unfold F5;simp (decide:=true) (disch:=omega) only[NF,a0H hl hk,a2Q hl hk,a3c hl hk,M6 hl hk,a1R hl hk,a3Y hl hk,a2I K,a2h K,a7O,a6P,BC,H6,List.length_singleton]
theorem rt_bind (hs:s ≠ [95]):RT ⟨41,s,0,zT,[],[],a⟩ [(1,s)]:=by
 intro l size n k rest hl hk K hr hn;obtain⟨n,rfl⟩:∃q,n=q+1:=⟨n-1,by omega⟩
 have K:kt (l.drop k) =(1,s)::rest:=K;refine⟨⟨41,s,0,zT,[],[],a0i l size k⟩,?_,rfl⟩;show F5 n (A7.fs n) l k size=_;unfold F5;simp (decide:=true) (disch:=omega) only[NF,a0H hl hk,a2Q hl hk,a3c hl hk,M6 hl hk,a1R hl hk,a3Y hl hk,a2I K,a2h K,a7O,a6P,BC,decide_eq_false hs,a5L hl hk,a6n K,H6,List.length_singleton]
theorem rt_int (hd:b4x s=true):RT ⟨42,[],((a1h s 0:Nat):Int),zT,[],[],a⟩ [(3,s)]:=by
 intro l size n k rest hl hk K hr hn;obtain⟨n,rfl⟩:∃q,n=q+1:=⟨n-1,by omega⟩
 have K:kt (l.drop k) =(3,s)::rest:=K;refine⟨⟨42,[],((a1h s 0:Nat):Int),zT,[],[],a0i l size k⟩,?_,rfl⟩;show F5 n (A7.fs n) l k size=_;unfold F5;simp (decide:=true) (disch:=omega) only[NF,a0H hl hk,a2Q hl hk,a3c hl hk,M6 hl hk,a1R hl hk,a3Y hl hk,a2I K,a2h K,a7O,a6P,BC,int_v hl hk,a6n K,atoi,hd,H6,List.length_singleton]
theorem rt_neg (hd:b4x s=true):RT ⟨42,[],w64 (0-((a1h s 0:Nat):Int)),zT,[],[],a⟩ [(8,[45]),(3,s)]:=by
 intro l size n k rest hl hk K hr hn;obtain⟨n,rfl⟩:∃q,n=q+1:=⟨n-1,by omega⟩
 have K:kt (l.drop k) =(8,[45]) ::(3,s)::rest:=K;have hk1:=Y1 K;have K1:=Z7 K;refine⟨⟨42,[],w64 (0-((a1h s 0:Nat):Int)),zT,[],[],a0i l size k⟩,?_,rfl⟩;show F5 n (A7.fs n) l k size=_;unfold F5;simp (decide:=true) (disch:=omega) only[NF,a0H hl hk,a2Q hl hk,a3c hl hk,M6 hl hk,a1R hl hk,a3Y hl hk,a2I K,a2h K,a7O,a6P,BC,int_v hl hk1,a2I K1,a6n K1,atoi,hd,H6,List.length_singleton];rfl
theorem rt_tru :RT ⟨43,[],1,zT,[],[],a⟩ [(9,[116,114,117,101])]:=by
 intro l size n k rest hl hk K hr hn;obtain⟨n,rfl⟩:∃q,n=q+1:=⟨n-1,by omega⟩
 have K:kt (l.drop k) =(9,[116,114,117,101])::rest:=K;refine⟨⟨43,[],1,zT,[],[],a0i l size k⟩,?_,rfl⟩;show F5 n (A7.fs n) l k size=_;unfold F5;simp (decide:=true) (disch:=omega) only[NF,a0H hl hk,a2Q hl hk,a3c hl hk,M6 hl hk,a1R hl hk,a3Y hl hk,a2I K,a2h K,a7O,a6P,BC,List.length_singleton]
theorem rt_fal :RT ⟨43,[],0,zT,[],[],a⟩ [(9,[102,97,108,115,101])]:=by
 intro l size n k rest hl hk K hr hn;obtain⟨n,rfl⟩:∃q,n=q+1:=⟨n-1,by omega⟩
 have K:kt (l.drop k) =(9,[102,97,108,115,101])::rest:=K;refine⟨⟨43,[],0,zT,[],[],a0i l size k⟩,?_,rfl⟩;show F5 n (A7.fs n) l k size=_;unfold F5;simp (decide:=true) (disch:=omega) only[NF,a0H hl hk,a2Q hl hk,a3c hl hk,M6 hl hk,a1R hl hk,a3Y hl hk,a2I K,a2h K,a7O,a6P,BC,List.length_singleton]
theorem rt_text:RT ⟨44,s,0,zT,[],[],a⟩ [(4,s)]:=by
 intro l size n k rest hl hk K hr hn;obtain⟨n,rfl⟩:∃q,n=q+1:=⟨n-1,by omega⟩
 have K:kt (l.drop k) =(4,s)::rest:=K;refine⟨⟨44,s,0,zT,[],[],a0i l size k⟩,?_,rfl⟩;show F5 n (A7.fs n) l k size=_;unfold F5;simp (decide:=true) (disch:=omega) only[NF,a0H hl hk,a2Q hl hk,a3c hl hk,M6 hl hk,a1R hl hk,a3Y hl hk,a2I K,a2h K,a7O,a6P,BC,a8q hl hk,a6n K,H6,List.length_singleton]
theorem rt_case0:RT ⟨45,s,0,zT,[],[],a⟩ [(8,[46]),(1,s)]:=by
 intro l size n k rest hl hk K hr hn;obtain⟨n,rfl⟩:∃q,n=q+1:=⟨n-1,by omega⟩
 have K:kt (l.drop k) =(8,[46]) ::(1,s)::rest:=K;have hk1:=Y1 K;have K1:=Z7 K;have hk2:=Y1 K1;have K2:=Z7 K1;refine⟨⟨45,s,0,zT,[],[],a0i l size k⟩,?_,rfl⟩;show F5 n (A7.fs n) l k size=_;unfold F5;simp (decide:=true) (disch:=omega) only[NF,a0H hl hk,a2Q hl hk,a3c hl hk,M6 hl hk,a1R hl hk,a3Y hl hk,a2I K,a2h K,a7O,a6P,BC,a5L hl hk1,a2I K1,a6n K1,H6,M6 hl hk2,isF K2 hr,List.length_singleton];rfl
theorem c56 {rest:List WK}:nx (cm r ++((8,[41])::rest)) 8 [40]=false:=a8O rfl rfl
theorem pat_lp (hl:l.length<=3000){rest:List WK}:∀{xs:List Nod} {vs:List (List WK)},V3 RT xs vs -> ∀(m k:Nat) (acc:List Nod),k<=l.length->kt (l.drop k)=cm vs ++((8,[41])::rest)->30000+40*(l.length-k)<=n->xs.length<m->acc.length+xs.length<=9000 -> ∃ys,a0g n (A7.fs n) size l m k acc=some (.brk (((k+(cm vs).length:Nat):Int),acc++ys))/\ers ys=ers xs:=by
 intro xs vs hv;induction hv with
 | nil =>
  intro m k acc hk K hn hm ha;obtain⟨m,rfl⟩:∃q,m=q+1:=⟨m-1,by omega⟩
  have K:kt (l.drop k) =(8,[41])::rest:=K;refine⟨[],?_,rfl⟩;rw[a0g.eq_2,M6 hl hk,isF (kd:=8) (s:=[44]) K rfl];simp[cm]
 | @cons x w xs vs hg hv ih =>
  intro m k acc hk K hn hm ha;simp only[List.length_cons]at hm ha;obtain⟨m,rfl⟩:∃q,m=q+1:=⟨m-1,by omega⟩
  rw[a3h,List.cons_append,List.append_assoc]at K;have hk1:=Y1 K;have K1:=Z7 K;have hk2:=a0G K1 hk1;have K2:=X4 K1;obtain⟨y,e,he⟩:=hg hl hk1 K1 c56 (show _<=n by omega) (size:=size);obtain⟨ys,e2,he2⟩:=ih m _ (acc++[y]) hk2 K2 (by omega) (by omega) (by simp only[lnC];omega);refine⟨y::ys,?_,a2g he he2⟩;rw[a0g.eq_2,M6 hl hk,isY K a3A];simp only[NF];rw[e];simp only[NF];rw[a3Z (by omega) (by simp) (by omega)];simp only[NF];rw[e2,List.append_assoc];have hq:k+1+w.length+(cm vs).length=k+(cm (w::vs)).length:=by rw[a3h];simp only[List.length_append,List.length_cons];omega
  rw[hq];rfl
theorem rt_case1 (hx0:xs ≠ [])(h:V3 RT xs vs)(hx:xs.length<=8000):RT ⟨45,s,0,zT,[],xs,a⟩ ((8,[46]) ::(1,s)::cw vs):=by
 intro l size n k rest hl hk K hr hn;obtain⟨n,rfl⟩:∃q,n=q+1:=⟨n-1,by omega⟩
 have K:kt (l.drop k) =(8,[46]) ::(1,s) ::(8,[40]) ::(jo vs ++((8,[41])::rest)):=by rw[K];simp[cw]
 have hk1:=Y1 K;have K1:=Z7 K;have hk2:=Y1 K1;have K2:=Z7 K1;have hk3:=Y1 K2;have K3:=Z7 K2;cases h with
 | nil=>exact absurd rfl hx0
 | @cons x w xs vs h1 h2 =>
  rw[a7V,List.append_assoc]at K3;simp only[List.length_cons]at hx;have hk4:=a0G K3 hk3;have K4:=X4 K3;obtain⟨y,e,he⟩:=h1 hl hk3 K3 c56 (show _<=n by omega) (size:=size);obtain⟨ys,e2,he2⟩:=pat_lp (size:=size) (n:=n) hl h2 n _ [y] hk4 K4 (by omega) (by omega) (by simp only[List.length_cons,List.length_nil];omega);have hk5:=a0G K4 hk4;have K5:=X4 K4;refine⟨⟨45,s,0,zT,[],y::ys,a0i l size k⟩,?_,er5 (a2g he he2)⟩;have hq:k+1+1+1+w.length+(cm vs).length+1=k+((8,[46]) ::(1,s)::cw (w::vs):List WK).length:=by unfold cw;rw[a7V];simp only[lnC];omega
  show F5 n (A7.fs n) l k size=_;unfold F5;simp (decide:=true) (disch:=omega) only[NF,a0H hl hk,a2Q hl hk,a3c hl hk,M6 hl hk,a1R hl hk,a3Y hl hk,a2I K,a2h K,a7O,a6P,BC,a5L hl hk1,a2I K1,a6n K1,H6,M6 hl hk2,a2h K2];rw[e];simp only[NF];rw[a3Z (by simp) (by simp) (by omega)];simp only[NF,List.nil_append];rw[e2];simp only[NF,a1R hl hk5,isY K5 a3A,hq];rfl
theorem rt_read (h:RT x w){rest:List WK}(hl:l.length<=3000)(hk:k<=l.length)(K:kt (l.drop k)=w++rest)(hr:nx rest 8 [40]=false)(hn:200000<=n):∃y,I7 n l k size=some (.ok (y,((k+w.length:Nat):Int)))/\y.er=x.er:=h hl hk K hr (by omega)
def pmw (n:Int):List WK:=cond (decide (n=1)) [(9,[105,110,111,117,116])] (cond (decide (n=2)) [(9,[99,111,110,115,117,109,101])] [])
def RM (V:Int->Str->Prop)(x:Nod)(w:List WK):Prop:=∃s n t a,x =⟨10,s,n,t,[],[],a⟩/\(n=0∨n=1∨n=2)/\GT V false t/\t.sz<=40000/\w=pmw n ++((1,s) ::(8,[58])::W t)
theorem nt_cm {rest:List WK}:NT false (cm r ++((8,[41])::rest)):=⟨a8O rfl rfl,.inl (a8O rfl rfl)⟩
theorem c2B {V:Int->Str->Prop}(h:RM V x w){m:Nat}(hl:l.length<=3000)(hk:k<=l.length){acc:List Nod}{rest:List WK}(K:kt (l.drop k)=w ++(cm vs ++((8,[41])::rest)))(hn:200000<=n)(ha:acc.length<=9000):∃y,y.er=x.er/\Y5 n size l (m+1) acc k =(z8 [44] l ((k+w.length:Nat):Int) size).bind fun(r17,at18)=>cond (!r17) (some (.brk (acc++[y],at18))) (Y5 n size l m (acc++[y]) at18):=by
 obtain⟨s,o,t,a,rfl,ho,ht,hz,rfl⟩:=h;refine⟨⟨10,s,o,t,[],[],a0i l size k⟩,rfl,?_⟩;rw[Y5.eq_2];rcases ho with rfl|rfl|rfl
 ·have K:kt (l.drop k) =(1,s) ::(8,[58]) ::(W t ++(cm vs ++((8,[41])::rest))):=by rw[K];simp[pmw]
  have hk1:=Y1 K;have K1:=Z7 K;have hk2:=Y1 K1;have K2:=Z7 K1;have e:=b7T (size:=size) (n:=n) ht hz hn hl hk2 K2 nt_cm;have hq:k+1+1+(W t).length=k+(pmw 0 ++((1,s) ::(8,[58])::W t)).length:=by simp[pmw];omega
  simp (decide:=true) (disch:=omega) only[NF,a0H hl hk,a3c hl hk,a2h K,a7O,a6P,BC,a5L hl hk,a2I K,a6n K,H6,a1R hl hk1,a2h K1];rw[e];simp only[NF];rw[a3Z (by omega) (by simp) (by omega),hq];rfl
 ·have K:kt (l.drop k) =(9,[105,110,111,117,116]) ::(1,s) ::(8,[58]) ::(W t ++(cm vs ++((8,[41])::rest))):=by rw[K];simp[pmw]
  have hk0:=Y1 K;have K0:=Z7 K;have hk1:=Y1 K0;have K1:=Z7 K0;have hk2:=Y1 K1;have K2:=Z7 K1;have e:=b7T (size:=size) (n:=n) ht hz hn hl hk2 K2 nt_cm;have hq:k+1+1+1+(W t).length=k+(pmw 1 ++((1,s) ::(8,[58])::W t)).length:=by simp[pmw];omega
  simp (decide:=true) (disch:=omega) only[NF,a0H hl hk,a3c hl hk,a2h K,a7O,a6P,BC,a5L hl hk0,a2I K0,a6n K0,H6,a1R hl hk1,a2h K1];rw[e];simp only[NF];rw[a3Z (by omega) (by simp) (by omega),hq];rfl
 ·have K:kt (l.drop k) =(9,[99,111,110,115,117,109,101]) ::(1,s) ::(8,[58]) ::(W t ++(cm vs ++((8,[41])::rest))):=by rw[K];simp[pmw]
  have hk0:=Y1 K;have K0:=Z7 K;have hk1:=Y1 K0;have K1:=Z7 K0;have hk2:=Y1 K1;have K2:=Z7 K1;have e:=b7T (size:=size) (n:=n) ht hz hn hl hk2 K2 nt_cm;have hq:k+1+1+1+(W t).length=k+(pmw 2 ++((1,s) ::(8,[58])::W t)).length:=by simp[pmw];omega
  simp (decide:=true) (disch:=omega) only[NF,a0H hl hk,a3c hl hk,a2h K,a7O,a6P,BC,a5L hl hk0,a2I K0,a6n K0,H6,a1R hl hk1,a2h K1];rw[e];simp only[NF];rw[a3Z (by omega) (by simp) (by omega),hq];rfl
theorem c7i {V:Int->Str->Prop}(hl:l.length<=3000){rest:List WK}(hn:200000<=n):∀{xs:List Nod} {vs:List (List WK)},V3 (RM V) xs vs -> ∀(x:Nod) (w:List WK),RM V x w -> ∀(m k:Nat) (acc:List Nod),k<=l.length->kt (l.drop k)=w ++(cm vs ++((8,[41])::rest))->xs.length<m->acc.length+xs.length<=9000 -> ∃ys,Y5 n size l m acc k=some (.brk (acc++ys,((k+(w++cm vs).length:Nat):Int)))/\ers ys=ers (x::xs):=by
 intro xs vs hv;induction hv with
 | nil =>
  intro x w hg m k acc hk K hm ha;obtain⟨m,rfl⟩:∃q,m=q+1:=⟨m-1,by omega⟩
  obtain⟨y,he,e⟩:=c2B (size:=size) (m:=m) hg hl hk K hn (by omega:acc.length<=9000);have K:kt (l.drop k)=w ++((8,[41])::rest):=K;refine⟨[y],?_,b60 he⟩;rw[e];simp only[NF,M6 hl (a0G K hk),isF (kd:=8) (s:=[44]) (X4 K) rfl];simp[cm]
 | @cons x2 w2 xs vs hg2 hv ih =>
  intro x w hg m k acc hk K hm ha;simp only[List.length_cons]at hm ha;obtain⟨m,rfl⟩:∃q,m=q+1:=⟨m-1,by omega⟩
  obtain⟨y,he,e⟩:=c2B (size:=size) (m:=m) hg hl hk K hn (by omega:acc.length<=9000);rw[a3h,List.cons_append,List.append_assoc]at K;have hk1:=a0G K hk;have K1:=X4 K;have hk2:=Y1 K1;have K2:=Z7 K1;obtain⟨ys,e2,he2⟩:=ih x2 w2 hg2 m _ (acc++[y]) hk2 K2 (by omega) (by simp only[lnC];omega);refine⟨y::ys,?_,a2g he he2⟩;rw[e];simp only[NF,M6 hl hk1,isY K1 a3A];rw[e2,List.append_assoc];have hq:k+w.length+1+(w2++cm vs).length=k+(w++cm (w2::vs)).length:=by rw[a3h];simp only[List.length_append,List.length_cons];omega
  rw[hq];rfl
theorem b9D {V:Int->Str->Prop}(h:V3 (RM V) xs vs)(hx:xs.length<=8000){rest:List WK}(hl:l.length<=3000)(hk:k<=l.length)(K:kt (l.drop k)=cw vs++rest)(hn:200000<=n):∃ys,X7 n l k size=some (.ok (ys,((k+(cw vs).length:Nat):Int)))/\ers ys=ers xs/\ys.length<=10000:=by
 have K:kt (l.drop k) =(8,[40]) ::(jo vs ++((8,[41])::rest)):=by rw[K];simp[cw]
 have hk1:=Y1 K;have K1:=Z7 K;unfold X7;cases h with
 | nil =>
  have K1:kt (l.drop (k+1)) =(8,[41])::rest:=K1;refine⟨[],?_,rfl,by simp⟩;simp only[NF,a1R hl hk,isY K a3A,M6 hl hk1,isY K1 a3A];rfl
 | @cons x w xs vs h1 h2 =>
  rw[a7V,List.append_assoc]at K1;simp only[List.length_cons]at hx;obtain⟨ys,e,he⟩:=c7i (size:=size) (n:=n) hl hn h2 x w h1 n (k+1) [] hk1 K1 (by omega) (by simp only[List.length_nil];omega);have hyl:=a6s he;have hne:nx (w ++(cm vs ++((8,[41])::rest))) 8 [41]=false:=by
   obtain⟨s,o,t,a,_,ho,_,_,rfl⟩:=h1;rcases ho with rfl|rfl|rfl<;>rfl
  have f1:=isF K1 hne;rw[<-List.append_assoc]at K1;have hk2:=a0G K1 hk1;have K2:=X4 K1;refine⟨ys,?_,he,by simp only[List.length_cons]at hyl;omega⟩;have hq:k+1+(w++cm vs).length+1=k+(cw (w::vs)).length:=by unfold cw;rw[a7V];simp only[lnC];omega
  simp only[NF,a1R hl hk,isY K a3A,M6 hl hk1,f1];rw[e];simp only[NF,a1R hl hk2,isY K2 a3A,hq,List.nil_append]
theorem gt_unit {V:Int->Str->Prop}(h:t=uT∨GT V false t)(hk:t.kind=4):t=uT:=by
 rcases h with h|h
 ·exact h
 ·cases h with
  | path h =>
   cases h with
   | @base s a h1 h2 =>
    have hk:kindOf s a=4:=hk;unfold a5S;rw[hk];unfold kindOf at hk;cases a with
    | nil=>rw[show eqB 4 6=false from a1t (by decide)];rfl
    | cons x r =>
     exfalso;simp only[show eqB ((x::r).length:Int) 0=false from a1t (by simp;omega),Bool.false_and,cond_false]at hk;cases h1:(eqB ((x::r).length:Int) 1&&eqS s [65,114,114,97,121])<;>cases h2:(eqB ((x::r).length:Int) 1&&eqS s [87,101,97,107])<;>rw[h1,h2]at hk<;>revert hk<;>decide
   | dot h1 h2=>simp at hk
  | any h=>simp at hk
  | func h1 h2=>simp at hk
theorem c7y {V:Int->Str->Prop}(h:t=uT∨GT V false t)(hz:t.sz<=40000){rest:List WK}(hl:l.length<=3000)(hk:k<=l.length)(K:kt (l.drop k)=rsw t++rest)(hr:NT false rest)(hr2:nx rest 8 [45,62]=false)(hn:200000<=n):a0a n l k size=some (.ok (t,((k+(rsw t).length:Nat):Int))):=by
 unfold a0a;cases hk4:eqB t.kind 4
 ·have hg:GT V false t:=by
   rcases h with rfl|h
   ·rw[a0z rfl]at hk4;cases hk4
   ·exact h
  have er:rsw t =(8,[45,62])::W t:=by unfold rsw;rw[hk4];rfl
  rw[er]at K ⊢;have K:kt (l.drop k) =(8,[45,62]) ::(W t++rest):=K;have hk1:=Y1 K;have e:=b7T (size:=size) (n:=n) hg hz hn hl hk1 (Z7 K) hr;simp only[NF,M6 hl hk,isY K a3A];rw[e];have hq:k+1+(W t).length=k+((8,[45,62])::W t:List WK).length:=by simp only[List.length_cons];omega
  simp only[NF,hq]
 ·have ht:=gt_unit h (eqB_i hk4);subst ht;have er:rsw uT=[]:=by unfold rsw;rw[hk4];rfl
  rw[er]at K ⊢;have K:kt (l.drop k)=rest:=K;simp only[NF,M6 hl hk,isF K hr2];rfl
variable {C:Type} {c op:Int} {xs ys:List Nod} {ts:List Typ} {P:List WK->Prop} {n q r0:Nat} {b:Nod} {F:PF->List Tok->Int->Int->Option (Rs (Nod×Int) (o6×Int))} {t:Typ} {p:WK}
def NSt (r:List WK):Prop:=nx r 9 [101,108,115,101]=false
abbrev RSt:=RX 30 NSt j3.O4
def RBl (x:Nod)(w:List WK):Prop:=RX 34 T1 j3.G7 x w /\ ∃r,w =(8,[123])::r
def SH (x:Nod)(w:List WK):Prop:=RSt x w/\(∀r,nx (w++r) 8 [125]=false) /\ ∀r,nx (w++r) 9 [101,108,115,101]=false
theorem rd_one {p k:Nat}{size:Int}{l:List Tok}(hl:l.length<=3000)(hk:k<=l.length)(hk1:k+1<=l.length){z:Nod}(e:(j3.fs p).G7 l ((k+1:Nat):Int) size=some (.ok (z,(q:Int)))):(j3.fs (p+1)).V7 op l k size=some (.ok ([z],a0i l size k,(q:Int))):=by
 show a19 p (j3.fs p) op l k size=_;unfold a19;rw[a0H hl hk,H6 (by omega),e];simp only[NF]
theorem ne_blk {v r:List WK}(h:RBl b v):NE (v++r):=by
 obtain⟨_,q,rfl⟩:=h;exact a7A (.inr (.inr (.inr (.inl rfl))))
theorem bit_v:(eqB (IntKind.wrap .i64 ((BitVec.ofInt 64 0 &&& BitVec.ofInt 64 1).toNat:Nat)) 0=true/\eqB (IntKind.wrap .i64 ((BitVec.ofInt 64 1 &&& BitVec.ofInt 64 1).toNat:Nat)) 0=false/\eqB (IntKind.wrap .i64 ((BitVec.ofInt 64 2 &&& BitVec.ofInt 64 1).toNat:Nat)) 0=true/\eqB (IntKind.wrap .i64 ((BitVec.ofInt 64 3 &&& BitVec.ofInt 64 1).toNat:Nat)) 0=false)/\eqB (IntKind.wrap .i64 ((BitVec.ofInt 64 0 &&& BitVec.ofInt 64 2).toNat:Nat)) 0=true/\eqB (IntKind.wrap .i64 ((BitVec.ofInt 64 1 &&& BitVec.ofInt 64 2).toNat:Nat)) 0=true/\eqB (IntKind.wrap .i64 ((BitVec.ofInt 64 2 &&& BitVec.ofInt 64 2).toNat:Nat)) 0=false/\eqB (IntKind.wrap .i64 ((BitVec.ofInt 64 3 &&& BitVec.ofInt 64 2).toNat:Nat)) 0=false:=by
 unfold eqB;refine⟨⟨?_,?_,?_,?_⟩,?_,?_,?_,?_⟩<;>simp[IntKind.wrap,IntKind.bits,IntKind.signed]
structure At (l:List Tok)(k:Nat)(w:List WK):Prop where
 hl:l.length<=3000
 hk:k<=l.length
 K:kt (l.drop k)=w
section
variable {l:List Tok} {k:Nat} {w r:List WK} {size:Int}
theorem At.up (h:At l k (p::r)):At l (k+1) r:=⟨h.hl,Y1 h.K,Z7 h.K⟩
theorem At.ap {a:List WK}(h:At l k (a++r)):At l (k+a.length) r:=⟨h.hl,a0G h.K h.hk,X4 h.K⟩
theorem At.le (h:At l k w):k<=l.length/\l.length<=3000:=⟨h.hk,h.hl⟩
theorem At.wl (h:At l k w):k+w.length=l.length:=by
 have h1:=congrArg List.length h.K;have h2:=h.hk;simp only[kt,List.length_map,List.length_drop]at h1;omega
variable {A B E:Type} {Q:A->Prop}
variable {x y:Option A} {kd:Int} {s:Str}
theorem w_T (h:At l k ((kd,s)::r))(g:At l (k+1) r->k+1<=l.length/\l.length<=3000->S1 Q x):S1 Q (cond (isT l kd s k) x y):=t_T (isY h.K a3A) (g h.up h.up.le)
theorem w_F (h:At l k w)(hn:nx w kd s=false)(g:S1 Q y):S1 Q (cond (isT l kd s k) x y):=t_F (isF h.K hn) g
theorem v_T (h:At l k ((kd,s)::r))(g:(a3x l k).text=s->At l (k+1) r->k+1<=l.length/\l.length<=3000->S1 Q x):S1 Q (cond (isK l kd k) x y):=t_T (ikY h.K (show nk ((kd,s)::r) kd=true by simp[nk])) (g (a6n h.K) h.up h.up.le)
theorem v_F (h:At l k w)(hn:nk w kd=false)(g:S1 Q y):S1 Q (cond (isK l kd k) x y):=t_F (ikF h.K hn) g
theorem r_typ {V:Int->Str->Prop}{f:Typ×Int->Option A}{e:Int×Int->Option A}(h:At l k (W t++r))(ht:GT V false t)(hz:t.sz<=40000)(hn:200000<=n)(hr:NT false r)(g:∀q:Nat,At l q r->k<=q/\q<=l.length/\l.length<=3000->S1 Q (f (t,(q:Int)))):S1 Q (p9 (F4 n l k size) f e):=by
 rw[b7T ht hz hn h.hl h.hk h.K hr];exact g _ h.ap ⟨Nat.le_add_right _ _,h.ap.le⟩
theorem r_res {V:Int->Str->Prop}{f:Typ×Int->Option A}{e:Int×Int->Option A}(h:At l k (rsw t++r))(ht:t=uT∨GT V false t)(hz:t.sz<=40000)(hn:200000<=n)(hr:NT false r/\nx r 8 [45,62]=false)(g:∀q:Nat,At l q r->k<=q/\q<=l.length/\l.length<=3000->S1 Q (f (t,(q:Int)))):S1 Q (p9 (a0a n l k size) f e):=by
 rw[c7y ht hz h.hl h.hk h.K hr.1 hr.2 hn];exact g _ h.ap ⟨Nat.le_add_right _ _,h.ap.le⟩
theorem r_x {x:Nod}{f:Nod×Int->Option A}{e:o6×Int->Option A}(h:At l k (w++r))(hx:RX r0 P F x w)(hP:P r)(hn:200000+40*(l.length-k)+r0<=n)(g:∀y (q:Nat),y.er=x.er->At l q r->k<=q/\q<=l.length/\l.length<=3000->S1 Q (f (y,(q:Int)))):S1 Q (p9 (F (j3.fs n) l k size) f e):=by
 obtain⟨y,e1,he⟩:=hx (size:=size) h.hl h.hk h.K hP hn;rw[e1];exact g y _ he h.ap ⟨Nat.le_add_right _ _,h.ap.le⟩
theorem r_blk {f:Nod×Int->Option A}{e:o6×Int->Option A}(h:At l k (w++r))(hb:RBl b w)(hn:200000+40*(l.length-k)+34<=n)(g:∀y (q:Nat),y.er=b.er->At l q r->k<=q/\q<=l.length/\l.length<=3000->S1 Q (f (y,(q:Int)))):S1 Q (p9 ((j3.fs n).G7 l k size) f e):=r_x h hb.1 trivial hn g
theorem r_block {f:Nod×Int->Option A}{e:o6×Int->Option A}(h:At l k (w++r))(hb:RBl b w)(hn:400000<=n)(g:∀y (q:Nat),y.er=b.er->At l q r->k<=q/\q<=l.length/\l.length<=3000->S1 Q (f (y,(q:Int)))):S1 Q (p9 (G7 n l k size) f e):=by
 have:=h.hl;exact r_blk h hb (by omega) g
theorem r_one {f:List Nod×Int×Int->Option A}{e:o6×Int->Option A}(h:At l k (p ::(w++r)))(hb:RBl b w)(hn:200000+40*(l.length-k)+20<=n)(g:∀y a (q:Nat),y.er=b.er->At l q r->k<=q/\q<=l.length/\l.length<=3000->S1 Q (f ([y],a,(q:Int)))):S1 Q (p9 ((j3.fs n).V7 op l k size) f e):=by
 obtain⟨n,rfl⟩:∃q,n=q+1:=⟨n-1,by omega⟩
 have h1:=h.up;have h2:=h1.le;obtain⟨y,e1,he⟩:=hb.1 (size:=size) (n:=n) h1.hl h1.hk h1.K trivial (by omega);rw[rd_one h.hl h.hk h1.hk e1];exact g y _ _ he h1.ap ⟨by omega,h1.ap.le⟩
theorem r_pat {x:Nod}{f:Nod×Int->Option A}{e:Int×Int->Option A}(h:At l k (w++r))(hx:RT x w)(hn:200000<=n)(hr:nx r 8 [40]=false)(g:∀y (q:Nat),y.er=x.er->At l q r->k<=q/\q<=l.length/\l.length<=3000->S1 Q (f (y,(q:Int)))):S1 Q (p9 (I7 n l k size) f e):=by
 obtain⟨y,e1,he⟩:=rt_read hx (size:=size) h.hl h.hk h.K hr hn;rw[e1];exact g y _ he h.ap ⟨Nat.le_add_right _ _,h.ap.le⟩
theorem r_idx {f:Tok->Option A}(h:At l k (p::r))(g:∀t,t.text=p.2->S1 Q (f t)):S1 Q ((idx' l (k:Int)).bind f):=by
 rw[a4Y (show k<l.length from h.up.hk)];exact g _ (a6n h.K)
def RL_ {C:Type}(mk:List Nod->Int->C)(l:List Tok)(xs:List Nod)(rest:List WK)(r:C):Prop:=∃ys,∃q:Nat,r=mk ys q/\ers ys=ers xs/\At l q rest
abbrev mkR {B:Type}:List Nod->Int->Rs (List Nod×Int) B:=fun ys q=>.ok (ys,q)
abbrev mkB {B:Type}:List Nod->Int->Lr (List Nod×Int) B:=fun ys q=>.brk (ys,q)
abbrev mkC {B:Type}:List Nod->Int->Lr (Int×List Nod) B:=fun ys q=>.brk (q,ys)
theorem c4N {rest:List WK}{p:Option (Rs (List Nod×Int) B)}{f:List Nod×Int->Option A}{e:B->Option A}(h:S1 (RL_ mkR l xs rest) p)(g:∀ys (q:Nat),ers ys=ers xs->ys.length=xs.length->At l q rest->q<=l.length/\l.length<=3000->S1 Q (f (ys,(q:Int)))):S1 Q (p9 p f e):=by
 obtain⟨_,rfl,ys,q,rfl,he,hA⟩:=h;exact g ys q he (a6s he).symm hA hA.le
theorem r_lb {rest:List WK}{p:Option (Lr (List Nod×Int) B)}{f:List Nod×Int->Option A}{e:B->Option A}(h:S1 (RL_ mkB l xs rest) p)(g:∀ys (q:Nat),ers ys=ers xs->ys.length=xs.length->At l q rest->q<=l.length/\l.length<=3000->S1 Q (f (ys,(q:Int)))):S1 Q (bS p f e):=by
 obtain⟨_,rfl,ys,q,rfl,he,hA⟩:=h;exact g ys q he (a6s he).symm hA hA.le
theorem r_lc {rest:List WK}{p:Option (Lr (Int×List Nod) B)}{f:Int×List Nod->Option A}{e:B->Option A}(h:S1 (RL_ mkC l xs rest) p)(g:∀ys (q:Nat),ers ys=ers xs->ys.length=xs.length->At l q rest->q<=l.length/\l.length<=3000->S1 Q (f ((q:Int),ys))):S1 Q (bS p f e):=by
 obtain⟨_,rfl,ys,q,rfl,he,hA⟩:=h;exact g ys q he (a6s he).symm hA hA.le
theorem r_fin {mk:List Nod->Int->C}{rest:List WK}(hA:At l q rest)(he:ers ys=ers xs):S1 (RL_ mk l xs rest) (some (mk ys q)):=⟨_,rfl,ys,q,rfl,he,hA⟩
theorem r_ih {mk:List Nod->Int->C}{zs us:List Nod}{rest:List WK}{p:Option C}(h:S1 (RL_ mk l zs rest) p)(he:ers zs=ers us):S1 (RL_ mk l us rest) p:=by
 obtain⟨_,rfl,ys,q,rfl,h1,hA⟩:=h;exact⟨_,rfl,ys,q,rfl,h1.trans he,hA⟩
def RN_ (l:List Tok)(x:Nod)(rest:List WK)(r:Rs (Nod×Int) B):Prop:=∃y,∃q:Nat,r=.ok (y,(q:Int))/\y.er=x.er/\At l q rest
theorem r_tree {x:Nod}{rest:List WK}{p:Option (Rs (Nod×Int) B)}{f:Nod×Int->Option A}{e:B->Option A}(h:S1 (RN_ l x rest) p)(g:∀y (q:Nat),y.er=x.er->At l q rest->q<=l.length/\l.length<=3000->S1 Q (f (y,(q:Int)))):S1 Q (p9 p f e):=by
 obtain⟨_,rfl,y,q,rfl,he,hA⟩:=h;exact g y q he hA hA.le
theorem c4M {x y:Nod}{rest:List WK}(hA:At l q rest)(he:y.er=x.er):S1 (RN_ (B:=B) l x rest) (some (.ok (y,(q:Int)))):=⟨_,rfl,y,q,rfl,he,hA⟩
def SG_ (l:List Tok)(s:Str)(t:Typ)(xs:List Nod)(rest:List WK)(r:Rs (Str×Typ×List Nod×Int×Int) B):Prop:=∃ys a,∃q:Nat,r=.ok (s,t,ys,a,(q:Int))/\ers ys=ers xs/\At l q rest
theorem r_sig {s:Str}{rest:List WK}{p:Option (Rs (Str×Typ×List Nod×Int×Int) B)}{f:Str×Typ×List Nod×Int×Int->Option A}{e:B->Option A}(h:S1 (SG_ l s t xs rest) p)(g:∀ys a (q:Nat),ers ys=ers xs->ys.length=xs.length->At l q rest->q<=l.length/\l.length<=3000->S1 Q (f (s,t,ys,a,(q:Int)))):S1 Q (p9 p f e):=by
 obtain⟨_,rfl,ys,a,q,rfl,he,hA⟩:=h;exact g ys a q he (a6s he).symm hA hA.le
theorem r_finS {s:Str}{a:Int}{rest:List WK}(hA:At l q rest)(he:ers ys=ers xs):S1 (SG_ (B:=B) l s t xs rest) (some (.ok (s,t,ys,a,(q:Int)))):=⟨_,rfl,ys,a,q,rfl,he,hA⟩
end
def TY_ {B:Type}(l:List Tok)(xs:List Nod)(c:Int)(ts:List Typ)(rest:List WK)(r:Lr (List Nod×Int×Int×List Typ) B):Prop:=∃q:Nat,r=.brk (xs,(q:Int),c,ts)/\At l q rest
theorem r_tys {A B:Type}{Q:A->Prop}{l:List Tok}{rest:List WK}{p:Option (Lr (List Nod×Int×Int×List Typ) B)}{f:List Nod×Int×Int×List Typ->Option A}{e:B->Option A}(h:S1 (TY_ l xs c ts rest) p)(g:∀q:Nat,At l q rest->q<=l.length/\l.length<=3000->S1 Q (f (xs,(q:Int),c,ts))):S1 Q (bS p f e):=by
 obtain⟨_,rfl,q,rfl,hA⟩:=h;exact g q hA hA.le
theorem r_finT {B:Type}{l:List Tok}{rest:List WK}(hA:At l q rest):S1 (TY_ (B:=B) l xs c ts rest) (some (.brk (xs,(q:Int),c,ts))):=⟨_,rfl,q,rfl,hA⟩
theorem nt_cmr {r:List (List WK)}{rest:List WK}(h:NT false rest):NT false (cm r++rest):=by
 obtain⟨h1,h2⟩:=h;refine⟨a8O h1 rfl,.inl (a8O ?_ rfl)⟩;rcases h2 with h2 |⟨h2,_⟩
 ·exact h2
 ·cases h2
theorem eqr {P:Prop}(x:P:=by
  first
  | (repeat' first
      | assumption
      | rfl
      | refine c0d ?_ ?_
      | refine a2g ?_ ?_
      | refine er5 ?_
      | refine Eq.trans (by assumption) ?_
     done)
  | (simp only [apC,List.append_nil]
     repeat' first
      | assumption
      | rfl
      | refine c0d ?_ ?_
      | refine a2g ?_ ?_
      | refine er5 ?_
     done)
  | (refine er5 ?_
     simp only[c0c, *,List.append_assoc,List.nil_append])):P:=x
theorem lnn {P:Prop}(x:P:=by
 first|omega |(simp only[lnC]at *;omega)):P:=x
theorem FIN:eqB 0 1=false/\eqB 1 1=true/\w64 (0+1)=1/\w64 (1+2)=3/\w64 (0+2)=2/\(eqB (IntKind.wrap .i64 ((BitVec.ofInt 64 0 &&& BitVec.ofInt 64 1).toNat:Nat)) 0=true/\eqB (IntKind.wrap .i64 ((BitVec.ofInt 64 1 &&& BitVec.ofInt 64 1).toNat:Nat)) 0=false/\eqB (IntKind.wrap .i64 ((BitVec.ofInt 64 2 &&& BitVec.ofInt 64 1).toNat:Nat)) 0=true/\eqB (IntKind.wrap .i64 ((BitVec.ofInt 64 3 &&& BitVec.ofInt 64 1).toNat:Nat)) 0=false):=⟨a1t (by decide),a0z rfl,by decide,by decide,by decide,bit_v.1⟩
theorem rdk {P:Prop}(x:P:=by
 simp (disch:=omega) only[NF,H6,FIN,b1p];repeat' (first
  | refine b8g (by omega) (by omega) fun _=>?_
  | refine c06 (by omega) (by omega) ?_
  | refine b5z (by omega) (by omega) ?_
  | refine t_cap (by omega) (by omega) ?_
  | refine t_name (by omega) (by omega) ?_
  | refine c47 (by omega) (by omega) ?_
  | refine t_key (by omega) (by omega) ?_
  | refine t_is (by omega) (by omega) ?_
  | refine t_isK (by omega) (by omega) ?_
  | refine w_T (by assumption) fun _ _=>?_
  | refine w_F (by assumption) (by first|rfl|assumption |(exact a8O rfl rfl) |(exact a8O (by assumption) rfl)) ?_
  |(refine v_T (by assumption) fun ht _ _=>?_;try simp only[ht])
  | refine v_F (by assumption) (by rfl) ?_
  | refine t_app (by exact lnn) (by exact lnn) (by decide) ?_
  | refine r_typ (by assumption) (by assumption) (by omega) (by omega) (by first|exact⟨rfl,.inl rfl⟩|assumption|exact nt_cmr (by assumption)|exact⟨a8O rfl rfl,.inl (a8O rfl rfl)⟩) fun _ _ _=>?_
  | refine r_res (by assumption) (by assumption) (by omega) (by omega) (by assumption) fun _ _ _=>?_
  | refine r_x (by assumption) (by assumption) (by first|trivial|assumption|exact a7A (by decide)|exact ne_blk (by assumption)|rfl) (by omega) fun _ _ _ _ _=>?_
  | refine r_blk (by assumption) (by assumption) (by omega) fun _ _ _ _ _=>?_
  | refine r_one (by assumption) (by assumption) (by omega) fun _ _ _ _ _ _=>?_
  | refine r_pat (by assumption) (by assumption) (by omega) (by assumption) fun _ _ _ _ _=>?_
  |(refine r_idx (by assumption) fun _ ht=>?_;simp (decide:=true) (disch:=omega) only[ht,NF,b6Y,BC,H6,FIN])
  | refine r_block (by assumption) (by assumption) (by omega) fun _ _ _ _ _=>?_
  | refine c4N (by first|exact ls1 (by assumption)|exact ls2 (by assumption)|exact ls3 (by assumption)) fun _ _ _ _ _ _=>?_
  | refine r_lb (by first|exact ls1 (by assumption)|exact ls2 (by assumption)) fun _ _ _ _ _ _=>?_
  | refine r_lc (by first|exact ls1 (by assumption)|exact ls1 (by assumption) (by omega) (by exact lnn)|exact ls2 _ _ (by assumption) (by exact lnn)|exact ls3 _ _ (by assumption) (by exact lnn)) fun _ _ _ _ _ _=>?_
  | refine r_tree (by first|exact lt1 (by assumption)|exact lt2 (by assumption)|exact lt1 (by assumption) (by omega)) fun _ _ _ _ _=>?_
  | refine r_sig (lg (by assumption)) fun _ _ _ _ _ _ _=>?_
  | refine r_tys (lq (by assumption)) fun _ _ _=>?_
  |(refine r_finT (by assumption))
  |(refine r_fin (by assumption) (by exact eqr))
  |(refine c4M (by assumption) (by exact eqr))
  |(refine r_finS (by assumption) (by exact eqr))
  |(refine r_ih (ih _ _ (by assumption) (by exact lnn)) (by exact eqr))
  |(refine r_ih (ih _ _ (by assumption) (by exact lnn) (by omega)) (by exact eqr)))<;>try simp (disch:=omega) only[NF,H6,FIN,b1p]):P:=x
theorem of_rx {x:Nod}{w rest:List WK}{l:List Tok}{size:Int}{k:Nat}(hx:RX r0 P F x w)(h:At l k (w++rest))(hP:P rest)(hn:200000+40*(l.length-k)+r0<=n):S1 (RN_ l x rest) (F (j3.fs n) l k size):=by
 obtain⟨y,e1,he⟩:=hx (size:=size) h.hl h.hk h.K hP hn;exact⟨_,e1,y,_,rfl,he,h.ap⟩
theorem a5A {x:Nod}{w:List WK}(h:∀(l:List Tok) (size:Int) (n k:Nat) (rest:List WK),At l k (w++rest)->P rest->k<=l.length/\l.length<=3000->200000+40*(l.length-k)+r0<=n+1->S1 (RN_ l x rest) (F (j3.fs (n+1)) l k size)):RX r0 P F x w:=by
 intro l size n k rest hl hk K hP hn;obtain⟨n,rfl⟩:∃q,n=q+1:=⟨n-1,by omega⟩
 have A:At l k (w++rest):=⟨hl,hk,K⟩
 obtain⟨_,e,y,q,rfl,he,hA⟩:=h l size n k rest A hP ⟨hk,hl⟩ hn;have h1:=A.wl;have h2:=hA.wl;rw[List.length_append]at h1;have:q=k+w.length:=by omega
 subst this;exact⟨y,e,he⟩
end Go.Proofs.YtjhfloacokgdiaaGreatDoor
