/- Texts of ParsePrints, joined. -/
import Derived.Test.YtmippldlhnajkaaGreatDoorParsePrintsJ31
import Derived.ChangeArms
import Derived.DataReads
import Derived.ChangeStays
import Derived.ReadAgain
import Derived.KernelRfl
import Derived.SizedLaws
set_option maxRecDepth 100000
set_option maxHeartbeats 20000000
set_option linter.unusedSimpArgs false
set_option linter.unusedVariables false
set_option linter.unusedSectionVars false
namespace Go.Proofs.YtmippldlhnajkaaGreatDoor
open Go Go.Vm Pr
theorem joinI_H {a:List Str}{H:Hp}(h1:a.length<=140737488355328)(h2:(Lib.join a [32]).length<=140737488355328):b2F [.slice .sealed (List.length a) (clS a),.str [32]] H=some (.ret (.str (Lib.join a [32])) H):=by
 have e:eqN a.length (List.length a)=true:=a2r rfl;have e1:leN a.length 140737488355328=true:=a8z h1;have e2:leN (Lib.join a [32]).length 140737488355328=true:=a8z h2;unfold b2F;simp only[b68,e,e1,e2,gd,Bool.and_self]
theorem c4p {d:Nod}(hb:d.bd)(hs:d.sz<=100000){n:Nat}(hn:40*d.sz+60<=n):∃ws,a3t n [] d=some (ws,ws)/\(Lib.join ws [32]).length<=2000000*d.sz/\Lw.b5O Pr.env (a6f d) (Lib.join ws [32]):=by
 obtain⟨⟨ws,ws'⟩,e,e1,e2⟩:=decl_tot (w:=[]) hb (by omega) hn (by simp only[c3o];omega);have e1:ws'=ws:=e1;have e2:wt ws<=wt []+2000000*d.sz:=e2;subst e1;rw[c3o]at e2;have hj:=c4f ws';have hw:=c3n ws';exact⟨ws',e,by omega,_,_,_,b6V.ok e,a6X rfl (joinI_H (by omega) (by omega))⟩
theorem lineP_ok {d:Nod}{ws:List Str}{n:Nat}(h1:a00 n d []=some ws)(h2:wt ws<=1000000000000):Lw.b7v Pr.env (a6f d) (Lib.join ws [32]):=by
 have h3:a5l ws=some (Lib.join ws [32]):=by
  unfold a5l;rw[joins (by omega)];rfl
 exact⟨_,_,a9A.ok h1,b4H.ok h3⟩
theorem b83 {R R':List V->List UInt8->Prop}:∀{l:List Nod},(∀d∈l,∃s:Str,s.length<=2000000*d.sz/\R (a6f d) s/\R' (a6f d) s) -> ∃ls,Lw.Lines R (C8 l) ls/\Lw.Lines R' (C8 l) ls/\ls.length=l.length/\(Lw.printed ls).length<=3000000*szN l
 | [],_=>⟨[],.nil,.nil,rfl,by simp[Lw.printed]⟩
 | x::r,h=>by
  obtain⟨s,h1,h2,h3⟩:=h x (by simp);obtain⟨ls,g1,g2,g3,g4⟩:=b83 (l:=r) fun d hd=>h d (List.mem_cons_of_mem _ hd);have e:C8 (x::r)=a6f x++C8 r:=b8C.cons x r;have hz:=x.S9;refine⟨s::ls,by rw[e];exact .cons _ _ _ _ rfl h2 g1,by rw[e];exact .cons _ _ _ _ rfl h3 g2,by rw[List.length_cons,List.length_cons,g3],?_⟩;have e2:Lw.printed (s::ls)=s++[10]++Lw.printed ls:=by simp[Lw.printed]
  rw[e2,K6];simp only[List.length_append,List.length_singleton];omega
theorem c6Y {d:Nod}(hb:d.bd)(hs:d.sz<=100000):∃s,b0L d=some s:=by
 have hz:=d.S9;have hl:=G5 d.l;obtain⟨ls,h1,_,h3,h4⟩:=b83 (R:=Lw.b5O Pr.env) (R':=Lw.b5O Pr.env) (l:=d.l) fun c hc=>by
  have:=I5 hc;obtain⟨ws,_,e1,e2⟩:=c4p (Y4 (d.a4w.1 hb).2.2.2.2 hc) (by omega) (n:=40*c.sz+60) (Nat.le_refl _);exact⟨_,e1,e2,e2⟩
 refine⟨Lw.printed ls,?_⟩;unfold b0L;rw[a6X (h:=Pr.c2V) rfl (Lw.b4x Lw.c05 h1 h3 (by omega) (by omega))]
theorem c6Z {d:Nod}(hb:d.bd)(hs:d.sz<=100000)(hD:∀c∈d.l,DD c):∃s,b0L d=some s/\a8B d=some s:=by
 have hz:=d.S9;have hl:=G5 d.l;obtain⟨ls,h1,h2,h3,h4⟩:=b83 (R:=Lw.b5O Pr.env) (R':=Lw.b7v Pr.env) (l:=d.l) fun c hc=>by
  have:=I5 hc;obtain⟨ws,e,e1,e2⟩:=c4p (Y4 (d.a4w.1 hb).2.2.2.2 hc) (by omega) (n:=40*c.sz+100) (by omega);obtain⟨a,b,g1,g2,g3,g4⟩:=decl_ok (n:=40*c.sz+100) (n':=40*c.sz+100) (w:=[]) (hD c hc) (by omega) (by omega) (by omega) (by simp only[c3o];omega);rw[g2]at e;cases e;cases g3;rw[c3o]at g4;exact⟨_,e1,e2,lineP_ok g1 (by omega)⟩
 refine⟨Lw.printed ls,?_,?_⟩
 ·unfold b0L;rw[a6X (h:=Pr.c2V) rfl (Lw.b4x Lw.c05 h1 h3 (by omega) (by omega))]
 ·unfold a8B;rw[a6X (h:=Pr.a5g) rfl (Lw.b4x Lw.c04 h2 h3 (by omega) (by omega))]
theorem valid_ok {d:Nod}(hb:d.bd)(hs:d.sz<=100000){n:Nat}(hn:1000000<=n)(hf:d.fits):∃v,a8r n d=some v/\(v=true -> ∀c∈d.l,DD c):=by
 have no:∃v,some false=some v/\(v=true -> ∀c∈d.l,DD c):=⟨false,rfl,fun h=>by cases h⟩
 unfold a8r;cases h1:eqB d.op 1 with
 | false=>exact no
 | true =>
  obtain⟨⟨r2,r3⟩,e1⟩:=b90 n d (by omega) (by omega);have e1:a1d n d=some (r2,r3):=e1;obtain⟨r4,e2,_⟩:=Bk_ok d.sz d n 8001 (Nat.le_refl _) hf (by omega) (by omega) (by omega);simp only[NF,e1,e2];obtain⟨s,e3⟩:=c6Y hb hs;obtain⟨x,fs,e4,g1,g2⟩:=mod_tot s hn;obtain⟨v,e5,g3,_⟩:=en_ok (q:=false) x.sz x d n (Nat.le_refl _) (by omega) (by omega);have e5:Y7 n x d false=some v:=e5;have fin:∃v,((b0L d).bind fun rr5=>(a5S n rr5).bind fun(r6,r7)=>cond (eqB (List.length r7:Int) 0) ((a9K n r6 d).bind fun r8=>some (r8)) (some (false)))=some v/\(v=true -> ∀c∈d.l,DD c):=by
   simp only[NF,e3,e4,a9K,e5];cases h2:eqB (fs.length:Int) 0 with
   | false=>exact no
   | true =>
    refine⟨v,rfl,fun hv=>?_⟩;have h2:(fs.length:Int)=0:=c6l.1 h2;obtain⟨ds,rfl,_,hD⟩:=g1 (by omega);obtain⟨_,_,rfl,hl⟩:=I9.1 (g3 hv);exact a0d hl fun x hx y=>(hD x hx).same
  cases ltB 4000 r2 with
  | true=>exact no
  | false =>
   cases ltB 40 r3 with
   | true=>exact no
   | false =>
    cases ltB 8000 r4 with
    | true=>exact no
    | false=>exact fin
theorem prints_E (d:Nod)(hf:d.fits):a5i (d.sz+1000000) d=some true:=by
 obtain⟨b,e1,g1⟩:=big_ok d (d.sz+1000000) hf (by omega);unfold a5i b8s;cases b with
 | true=>simp only[NF,e1]
 | false =>
  obtain⟨hb,hs⟩:=g1 rfl;obtain⟨v,e2,g2⟩:=valid_ok hb (by omega) (n:=d.sz+1000000) (by omega) hf;cases v with
  | false=>simp only[NF,e1,e2]
  | true =>
   obtain⟨s,e3,e4⟩:=c6Z hb (by omega) (g2 rfl);have e5:Z5 (d.sz+1000000) d=some d:=(cn_ok _).1 d (by omega) (by omega);obtain⟨v,e6,_,g3⟩:=en_ok (q:=true) d.sz d d (d.sz+1000000) (Nat.le_refl _) (by omega) (by omega);have e6:Y7 (d.sz+1000000) d d true=some v:=e6;rw[g3 rfl]at e6;simp only[NF,e1,e2,e3,e4,e5,e6,b0X]
end Go.Proofs.YtmippldlhnajkaaGreatDoor
namespace Go.Proofs.YtmippldlhnajkaaGreatDoor
open Go Go.Vm
structure Rd (W:World)(vs:List V)(cs:List Value):Prop where
 rel:J5 b63 b3B W vs cs
 nf:∀v∈vs,Go.Vm.NF v
 one:∀x∈cs,x.oneCell'=true
theorem Rd.nil (W:World):Rd W [] []:=⟨⟨rfl,by simp⟩,by simp,by simp⟩
theorem Rd.cons {W:World}{v:V}{x:Value}{vs:List V}{cs:List Value}(h:Rel b63 b3B W v x)(hn:Go.Vm.NF v)(ho:x.oneCell'=true)(g:Rd W vs cs):Rd W (v::vs) (x::cs) :=
 ⟨D9.2 ⟨_,_,rfl,h,g.rel⟩,fun u hu=>(List.mem_cons.1 hu).elim (fun e=>e▸hn) (g.nf u),fun u hu=>(List.mem_cons.1 hu).elim (fun e=>e▸ho) (g.one u)⟩
theorem Rd.append {W:World}{vs us:List V}{cs ds:List Value}(h:Rd W vs cs)(g:Rd W us ds):Rd W (vs++us) (cs++ds) :=
 ⟨J5.append h.rel g.rel,fun u hu=>(List.mem_append.1 hu).elim (h.nf u) (g.nf u),fun u hu=>(List.mem_append.1 hu).elim (h.one u) (g.one u)⟩
theorem c2n {α:Type}{Q:Nat->α->Prop}:∀n,(∀i,i<n -> ∃x,Q i x) -> ∃l:List α,l.length=n /\ ∀i x,l[i]? = some x->Q i x
 | 0,_=>⟨[],rfl,fun i x h=>by simp at h⟩
 | n+1,h=>by
  obtain⟨l,h1,h2⟩:=c2n n fun i hi=>h i (by omega);obtain⟨x,hx⟩:=h n (by omega);refine⟨l++[x],by simp[h1],fun i y hy=>?_⟩;rw[List.getElem?_append]at hy;split at hy
  ·exact h2 i y hy
  ·rename_i hi;have:i=n:=by
    rcases Nat.lt_or_ge (i-l.length) 1 with h3|h3
    ·omega
    ·rw[List.getElem?_eq_none (by simpa using h3)]at hy;cases hy
   subst this;rw[h1,Nat.sub_self]at hy;simp at hy;subst hy;exact hx
theorem rd_list {α:Type}{sz:Nat}{c1:α->List V}{cl:List α->List V}(he:a3o sz c1 cl)(hsz:0<sz){F:α->Prop}{W:World}{a:Addr}{len cap:Nat}(hlc:len<=cap)
  (hel:∀i,i<len -> ∃cs,W.cells? 0 (a.add (i*sz)) sz=some cs /\ ∃x,Rd W (c1 x) cs/\F x) :
  ∃l:List α,l.length=len/\(∀x∈l,F x)/\Rel b63 b3B W (.slice .sealed (List.length l) (cl l)) (.slice (some a) len cap)/\Go.Vm.NF (.slice .sealed (List.length l) (cl l)):=by
 obtain⟨l,h1,h2⟩:=c2n (Q:=fun i x=>∃cs,W.cells? 0 (a.add (i*sz)) sz=some cs/\Rd W (c1 x) cs/\F x) len fun i hi=>by
  obtain⟨cs,g1,x,g2,g3⟩:=hel i hi;exact⟨x,cs,g1,g2,g3⟩
 subst h1;have hF:∀x∈l,F x:=fun x hx=>by
  obtain⟨i,hi⟩:=List.getElem?_of_mem hx;obtain⟨_,_,_,h⟩:=h2 i x hi;exact h
 have hlen:=he.length l;have part:∀q v,(cl l)[q]? = some v -> ∃x cs,l[q/sz]? = some x/\W.cells? 0 (a.add (q/sz*sz)) sz=some cs/\Rd W (c1 x) cs/\(c1 x)[q%sz]? = some v:=by
  intro q v hv;have hq:q<l.length*sz:=by
   rw[<-hlen];rcases Nat.lt_or_ge q (cl l).length with h|h
   ·exact h
   ·rw[List.getElem?_eq_none h]at hv;cases hv
  have hi:q/sz<l.length:=Nat.div_lt_of_lt_mul (by rw[Nat.mul_comm];exact hq);have hx:l[q/sz]? = some l[q/sz]:=List.getElem?_eq_getElem hi;obtain⟨cs,g1,g2,g3⟩:=h2 _ _ hx;refine⟨_,cs,hx,g1,g2,?_⟩;have h3:=he.at hx;have h4:((cl l).drop (q/sz*sz))[q%sz]? = some v:=by
   rw[List.getElem?_drop,Nat.mul_comm,Nat.div_add_mod];exact hv
  rw[h3,List.getElem?_append_left (by rw[he.len];exact Nat.mod_lt _ hsz)]at h4;exact h4
 refine⟨l,rfl,hF,?_,.slice _ _ _ (fun g h=>by cases h) (fun v hv=>?_)⟩
 ·rcases Nat.eq_zero_or_pos l.length with h0|h0
  ·have:l=[]:=List.length_eq_zero_iff.1 h0;subst this;rw[he.nil];exact .slice _ 0 [] [] 0 0 (some a) cap rfl (Nat.zero_le _) (fun h=>by omega) (fun _=>rfl) (fun i x h=>by simp at h) (fun i v x h=>by simp at h) trivial (by simp) (by simp)
  ·
   have hs:a.spot=none:=by
    obtain⟨cs,g1,g2,g3⟩:=h2 0 l[0] (List.getElem?_eq_getElem h0);obtain⟨_,c2,c3⟩:=World.cells?_some g1;have c4:=c3 0 hsz;simp only[Nat.zero_mul,Addr.add,if_true]at c4;have hc:0<cs.length:=by omega
    rw[List.getElem?_eq_getElem hc]at c4;unfold World.cell? at c4;split at c4
    ·split at c4
     ·cases c4
     ·rename_i hsp;cases hq:a.spot with
      | none=>rfl
      | some s=>rw[hq]at hsp;simp at hsp
    ·cases c4
   obtain⟨b,o,sp⟩:=a;simp only at hs;subst hs;have hadd:∀o n,(⟨b,o,none⟩:Addr).add n =⟨b,o+n,none⟩:=fun o n=>by
    unfold Addr.add;split
    ·rename_i h;subst h;rfl
    ·rfl
   have cells:∀q v,(cl l)[q]? = some v -> ∃x,W.cell? ⟨b,o+q,none⟩=some x/\Rel b63 b3B W v x/\x.oneCell'=true:=by
    intro q v hv;obtain⟨x,cs,_,g1,g2,g3⟩:=part q v hv;obtain⟨_,c2,c3⟩:=World.cells?_some g1;have c4:=c3 (q%sz) (Nat.mod_lt _ hsz);rw[hadd,hadd,Nat.add_assoc,Nat.mul_comm,Nat.div_add_mod]at c4;have hj:q%sz<cs.length:=by rw[c2];exact Nat.mod_lt _ hsz
    rw[List.getElem?_eq_getElem hj]at c4;exact⟨_,c4,g2.rel.2 _ _ _ g3 (List.getElem?_eq_getElem hj),g2.one _ (List.getElem_mem hj)⟩
   have hget:∀q,q<(cl l).length -> ∃x,W.cell? ⟨b,o+q,none⟩=some x/\Rel b63 b3B W ((cl l)[q]?.getD .undef) x/\x.oneCell'=true:=fun q hq=>by
    have hv:(cl l)[q]? = some (cl l)[q]:=List.getElem?_eq_getElem hq;rw[hv];exact cells q _ hv
   obtain⟨xs,e1,e2⟩:=c2n (cl l).length hget;refine .slice _ l.length (cl l) xs b o (some ⟨b,o,none⟩) cap e1 hlc (fun _=>rfl) (fun h=>by omega) (fun i x hx=>⟨rfl,(e2 i x hx).1⟩) (fun i v x hv hx=>?_) trivial (fun x hx=>?_) (fun v hv=>?_)
   ·have:=(e2 i x hx).2.1;rw[hv]at this;exact this
   ·obtain⟨i,hi⟩:=List.getElem?_of_mem hx;exact(e2 i x hi).2.2
   ·obtain⟨q,hq⟩:=List.getElem?_of_mem hv;obtain⟨x,cs,_,_,g2,g3⟩:=part q v hq;exact g2.nf v (List.mem_of_getElem? g3)
 ·obtain⟨q,hq⟩:=List.getElem?_of_mem hv;obtain⟨x,cs,_,_,g2,g3⟩:=part q v hq;exact g2.nf v (List.mem_of_getElem? g3)
theorem four {α:Type}(l:List α)(h:l.length=4):∃y0 y1 y2 y3,l=[y0,y1,y2,y3]:=by
 match l,h with
 | [y0,y1,y2,y3],_=>exact⟨_,_,_,_,rfl⟩
theorem b39 {H:Type}{P:Program}{e:TypeId}:∀{l:List (DataW H)} {d:DataW H},d∈l -> ∀n∈d.weights P e,n∈DataW.weightsAll P e l
 | d'::r,d,hd,n,hn=>by
  simp only[DataW.weightsAll,List.mem_append];rcases List.mem_cons.1 hd with rfl|h
  ·exact Or.inl hn
  ·exact Or.inr (b39 h n hn)
theorem b8P:∀{l:List Typ},(∀x∈l,x.fits)->b8O l
 | [],_=>trivial
 | x::r,h=>⟨h x (by simp),b8P fun y hy=>h y (by simp[hy])⟩
theorem c33:∀{l:List Nod},(∀x∈l,x.fits)->c3Z l
 | [],_=>trivial
 | x::r,h=>⟨h x (by simp),c33 fun y hy=>h y (by simp[hy])⟩
section
variable {H:Type} {enc:TypeId×Value->H} {W:World} {spare:Nat->Bool} {held:Bool}
theorem b75:Tryz.prog.cellsOf 24=4:=by kernel_rfl
theorem c7E:Tryz.prog.cellsOf 27=10:=by kernel_rfl
theorem cellsI:Tryz.prog.cellsOf 3=1:=by kernel_rfl
theorem cellsS:Tryz.prog.cellsOf 9=1:=by kernel_rfl
theorem c3N:Tryz.prog.cellsOf 22=1:=by kernel_rfl
theorem cellsSnd:Tryz.prog.cellsOf 25=1:=by kernel_rfl
theorem b3v {t i:Nat}{fs:Array Field}{xs:List (DataW H×List MemPlace)}{f:Field}{y:DataW H×List MemPlace}(ht:Tryz.prog.underlying t=some (.struct fs))(hw:∀q∈(DataW.agg (xs.map (·.1))).weights Tryz.prog t,q<=140737488355328)(hf:fs[i]? = some f)(hy:xs[i]? = some y):∀q∈y.1.weights Tryz.prog f.type,q<=140737488355328:=fun q hq=>hw q (by
 simp only[DataW.weights,ht];exact DataW.weights_mem_each (j:=i) (by simp[hf]) (by simp[hy]) q hq)
theorem b9C {α:Type}{sz t e:Nat}{c1:α->List V}{cl:List α->List V}(he:a3o sz c1 cl)(hsz:0<sz){F:α->Prop}{n:Nat}{cs:List Value}{x:DataW H×List MemPlace}(ht:Tryz.prog.underlying t=some (.slice e))(hc:Tryz.prog.cellsOf e=sz)(hbt:0<Tryz.prog.bytesOf e)
  (hel:∀m cs x,m<n ->(∀q∈x.1.weights Tryz.prog e,q<=140737488355328)->DataW.trod enc Tryz.prog W 0 spare held m e cs=some x -> ∃a,Rd W (c1 a) cs/\F a) (hw:∀q∈x.1.weights Tryz.prog t,q<=140737488355328) (h:DataW.trod enc Tryz.prog W 0 spare held n t cs=some x) :
  ∃l:List α,(∀a∈l,F a)/\l.length<=140737488355328/\Rd W [.slice .sealed (List.length l) (cl l)] cs:=by
 rcases DataW.trod_slice ht h with⟨rfl,_⟩ |⟨a,len,cap,elems,rest,m,rfl,rfl,rfl,hb,hl,hm,hlen,hE,_⟩
 ·refine⟨[],by simp,by simp,?_⟩;rw[he.nil];exact Rd.cons (.slice _ 0 [] [] 0 0 none 0 rfl (Nat.zero_le _) (fun h=>by omega) (fun _=>rfl) (fun i x h=>by simp at h) (fun i v x h=>by simp at h) trivial (by simp) (by simp)) (.slice _ _ _ (fun g h=>by cases h) (by simp)) rfl (Rd.nil W)
 ·have w0:(DataW.slice (elems.map (·.1)) (rest.map (·.1))).weights Tryz.prog t =((elems.map (·.1)).length+(rest.map (·.1)).length)*Tryz.prog.bytesOf e ::(DataW.weightsAll Tryz.prog e (elems.map (·.1))++DataW.weightsAll Tryz.prog e (rest.map (·.1))):=by simp only[DataW.weights,ht]
  have hw:∀q∈(DataW.slice (elems.map (·.1)) (rest.map (·.1))).weights Tryz.prog t,q<=140737488355328:=hw;rw[w0]at hw;obtain⟨l,h1,h2,h3,h4⟩:=rd_list he hsz (F:=F) (W:=W) (a:=a) hl (fun i hi=>by
   have h5:=hE i hi;rw[List.getElem?_eq_getElem (by rw[hlen];exact hi),hc,Option.bind_eq_some_iff]at h5;obtain⟨ds,h6,h7⟩:=h5;obtain⟨y,h8,h9⟩:=hel m ds _ (Nat.lt_succ_self m) (fun q hq=>hw q (List.mem_cons_of_mem _ (List.mem_append_left _ (b39 (List.mem_map_of_mem (List.getElem_mem _)) q hq)))) h7;exact⟨ds,h6,y,h8,h9⟩)
  refine⟨l,h2,?_,Rd.cons h3 h4 rfl (Rd.nil W)⟩;have h10:=hw _ (List.mem_cons_self ..);rw[List.length_map,List.length_map]at h10;have:=Nat.le_trans (Nat.le_mul_of_pos_right (elems.length+rest.length) hbt) h10;omega
theorem rd_typ:∀(n:Nat) (cs:List Value) (x:DataW H×List MemPlace),(∀q∈x.1.weights Tryz.prog 24,q<=140737488355328)->DataW.trod enc Tryz.prog W 0 spare held n 24 cs=some x -> ∃t:Typ,Rd W (c0E t) cs/\t.fits:=by
 intro n;induction n using Nat.strongRecOn with
 | _ n ih =>
 intro cs x hw h;obtain⟨xs,m,rfl,rfl,hl,hxs,hf⟩:=DataW.trod_struct Tryz.underlying24 h;rw[b75]at hl;obtain⟨z0,z1,z2,z3,rfl⟩:∃z0 z1 z2 z3,cs=[z0,z1,z2,z3]:=by
  exact four cs hl
 have hx:∀i,i<4 -> ∃y,xs[i]? = some y:=fun i hi=>⟨xs[i]'(by rw[hxs];exact hi),List.getElem?_eq_getElem _⟩
 obtain⟨y0,k0⟩:=hx 0 (by omega);obtain⟨y1,k1⟩:=hx 1 (by omega);obtain⟨y2,k2⟩:=hx 2 (by omega);obtain⟨y3,k3⟩:=hx 3 (by omega);have w0:=b3v Tryz.underlying24 hw (i:=0) rfl k0;have w1:=b3v Tryz.underlying24 hw (i:=1) rfl k1;have w2:=b3v Tryz.underlying24 hw (i:=2) rfl k2;have w3:=b3v Tryz.underlying24 hw (i:=3) rfl k3;have f0:=hf 0 _ rfl;have f1:=hf 1 _ rfl;have f2:=hf 2 _ rfl;have f3:=hf 3 _ rfl;simp only[k0,k1,k2,k3,cellsI,cellsS,c3N,List.drop,List.take]at f0 f1 f2 f3;obtain⟨a0,e0,_,_⟩:=DataW.trod_int Tryz.underlying3 f0;obtain⟨a1,e1,rfl,_⟩:=DataW.trod_string Tryz.underlying9 f1;have b1:a1.data.toList.length<=140737488355328:=w1 _ (by simp[DataW.weights]);obtain⟨a2,e2,_,_⟩:=DataW.trod_int Tryz.underlying3 f2;obtain⟨l,l1,l2,l3⟩:=b9C b8D (by omega) (F:=Typ.fits) Tryz.underlying22 b75 (of_decide_eq_true (by kernel_rfl)) (fun q cs x hq hw hh=>ih q (by omega) cs x hw hh) w3 f3;obtain⟨rfl,_⟩:=List.cons.inj e0;obtain⟨rfl,_⟩:=List.cons.inj e1;obtain⟨rfl,_⟩:=List.cons.inj e2;refine⟨⟨a0,a1.data.toList,a2,l⟩,?_,b1,l2,b8P l1⟩
 ·exact Rd.cons (.int _ _) (.int _ _) rfl (Rd.cons (.str a1.data.toList) (.str _) rfl (Rd.cons (.int _ _) (.int _ _) rfl l3))
theorem rd_nod:∀(n:Nat) (cs:List Value) (x:DataW H×List MemPlace),(∀q∈x.1.weights Tryz.prog 27,q<=140737488355328)->DataW.trod enc Tryz.prog W 0 spare held n 27 cs=some x -> ∃t:Nod,Rd W (a6f t) cs/\t.fits:=by
 intro n;induction n using Nat.strongRecOn with
 | _ n ih =>
 intro cs x hw h;obtain⟨xs,m,rfl,rfl,hl,hxs,hf⟩:=DataW.trod_struct Tryz.underlying27 h;rw[c7E]at hl;obtain⟨z0,z1,z2,z3,z4,z5,z6,z7,z8,z9,rfl⟩:∃z0 z1 z2 z3 z4 z5 z6 z7 z8 z9,cs=[z0,z1,z2,z3,z4,z5,z6,z7,z8,z9]:=Lw.ten cs hl;have hx:∀i,i<7 -> ∃y,xs[i]? = some y:=fun i hi=>⟨xs[i]'(by rw[hxs];exact hi),List.getElem?_eq_getElem _⟩
 obtain⟨y0,k0⟩:=hx 0 (by omega);obtain⟨y1,k1⟩:=hx 1 (by omega);obtain⟨y2,k2⟩:=hx 2 (by omega);obtain⟨y3,k3⟩:=hx 3 (by omega);obtain⟨y4,k4⟩:=hx 4 (by omega);obtain⟨y5,k5⟩:=hx 5 (by omega);obtain⟨y6,k6⟩:=hx 6 (by omega);have w0:=b3v Tryz.underlying27 hw (i:=0) rfl k0;have w1:=b3v Tryz.underlying27 hw (i:=1) rfl k1;have w2:=b3v Tryz.underlying27 hw (i:=2) rfl k2;have w3:=b3v Tryz.underlying27 hw (i:=3) rfl k3;have w4:=b3v Tryz.underlying27 hw (i:=4) rfl k4;have w5:=b3v Tryz.underlying27 hw (i:=5) rfl k5;have w6:=b3v Tryz.underlying27 hw (i:=6) rfl k6;have f0:=hf 0 _ rfl;have f1:=hf 1 _ rfl;have f2:=hf 2 _ rfl;have f3:=hf 3 _ rfl;have f4:=hf 4 _ rfl;have f5:=hf 5 _ rfl;have f6:=hf 6 _ rfl;simp only[k0,k1,k2,k3,k4,k5,k6,cellsI,cellsS,b75,c3N,cellsSnd,List.drop,List.take]at f0 f1 f2 f3 f4 f5 f6;obtain⟨a0,e0,_,_⟩:=DataW.trod_int Tryz.underlying3 f0;obtain⟨a1,e1,rfl,_⟩:=DataW.trod_string Tryz.underlying9 f1;have b1:a1.data.toList.length<=140737488355328:=w1 _ (by simp[DataW.weights]);obtain⟨a2,e2,_,r2⟩:=DataW.trod_int Tryz.underlying3 f2;obtain⟨ty,t1,t2⟩:=rd_typ _ _ _ w3 f3;obtain⟨l,l1,l2,l3⟩:=b9C b8D (by omega) (F:=Typ.fits) Tryz.underlying22 b75 (of_decide_eq_true (by kernel_rfl)) (fun q cs x hq hw hh=>rd_typ q cs x hw hh) w4 f4;obtain⟨g,g1,g2,g3⟩:=b9C b8C (by omega) (F:=Nod.fits) Tryz.underlying25 c7E (of_decide_eq_true (by kernel_rfl)) (fun q cs x hq hw hh=>ih q (by omega) cs x hw hh) w5 f5;obtain⟨a6,e6,_,_⟩:=DataW.trod_int Tryz.underlying3 f6;obtain⟨rfl,_⟩:=List.cons.inj e0;obtain⟨rfl,_⟩:=List.cons.inj e1;obtain⟨rfl,_⟩:=List.cons.inj e2;obtain⟨rfl,_⟩:=List.cons.inj e6;have r3:-9223372036854775808<=a2/\a2<=9223372036854775807:=by
  simp only[Lit.wf,Bool.and_eq_true,decide_eq_true_iff]at r2;exact r2
 refine⟨⟨a0,a1.data.toList,a2,ty,l,g,a6⟩,?_,b1,r3,l2,g2,t2,b8P l1,c33 g1⟩
 ·exact Rd.cons (.int _ _) (.int _ _) rfl (Rd.cons (.str a1.data.toList) (.str _) rfl (Rd.cons (.int _ _) (.int _ _) rfl (Rd.append t1 (Rd.append l3 (Rd.append g3 (Rd.cons (.int _ _) (.int _ _) rfl (Rd.nil W)))))))
end
end Go.Proofs.YtmippldlhnajkaaGreatDoor
namespace Go.Proofs.YtmippldlhnajkaaGreatDoor
open Go Go.Vm
theorem c61 (d:Nod)(hf:d.fits):E env (.call 3 [.agg (a6f d)]) []=some (.ret (.bool true) []):=b4D.ok (prints_E d hf)
end Go.Proofs.YtmippldlhnajkaaGreatDoor
