/- Texts of ParseValid, joined. -/
import Derived.Test.YtimgnjbjbdgmaaaGreatDoorParseValidJ22
set_option maxRecDepth 100000
set_option maxHeartbeats 20000000
set_option linter.all false
namespace Go.Proofs.YtimgnjbjbdgmaaaGreatDoor
open Go Go.Vm Pr
def ofF (ops:List Int)(y:Nod):List Nod:=(ops.filter fun o=>eqB y.op o).map fun _=>y
section
variable {n:Nat}
theorem of_in {x:Nod}{ops:List Int}(hO:ops.length<=10):∀(m j:Nat) (r:List Nod) (q:Int),ops.length<m+j->j<=ops.length->r.length<=5000000000+j->b0A n ops x m r q (j:Int)=some (r ++((ops.drop j).filter fun o=>eqB x.op o).map fun _=>x,q)
 | 0,_,_,_,_,_,_=>zOm
 | m+1,j,r,q,h1,h2,h3=>by
  rw[b0A.eq_2];rcases Nat.lt_or_ge j ops.length with h|h
  ·rw[a04 zOm,a1h h,drop_eq h,List.filter_cons];cases hb:eqB x.op ops[j]
   ·simp only[NF,hb,S9 (show j<=1000000000000 by omega)];exact of_in hO m (j+1) r q zOm zOm zOm
   simp only[NF,hb,b9R (b:=144) (show r.length+[x].length<=400000000000 by simp;omega) zOm,S9 (show j<=1000000000000 by omega),if_true];rw[of_in hO m (j+1) (r++[x]) q zOm zOm (by simp;omega)];simp
  rw[a2e zOm,List.drop_of_length_le h];simp
theorem of_g {x:Nod}{ops:List Int}(hO:ops.length<=10)(hn:12<=n)(hL:x.l.length<=100000000):∀(m i:Nat) (r:List Nod),x.l.length<m+i->i<=x.l.length->r.length<=10*i->a9k n x ops m r i=some (r ++(x.l.drop i).flatMap (ofF ops))
 | 0,_,_,_,_,_=>zOm
 | m+1,i,r,h1,h2,h3=>by
  rw[a9k.eq_2];rcases Nat.lt_or_ge i x.l.length with h|h
  ·have e:=of_in (n:=n) (x:=x.l[i]) hO n 0 r (i:Int) zOm (Nat.zero_le _) zOm;have hl:(ofF ops x.l[i]).length<=10:=by
    have:=List.length_filter_le (fun o=>eqB x.l[i].op o) ops;simp only[ofF,List.length_map];omega
   rw[List.drop_zero,Int.natCast_zero]at e;rw[a04 zOm,a1h h,drop_eq h,List.flatMap_cons];simp only[NF,e,S9 (show i<=1000000000000 by omega)];show a9k n x ops m (r++ofF ops x.l[i]) _=_;rw[of_g hO hn hL m (i+1) _ zOm zOm (by rw[List.length_append];omega),List.append_assoc]
  rw[a2e zOm,List.drop_of_length_le h];simp
theorem flm1 {f:Nod->List Nod}:∀{l:List Nod},(∀y∈l,f y=[y])->l.flatMap f=l
 | [],_=>rfl
 | x::r,h=>by
  rw[List.flatMap_cons,h x zSi,flm1 fun y hy=>h y (by simp[hy])];rfl
theorem of_2 {x:Nod}{ops:List Int}{p q:List Nod}(hx:x.l=p++q)(hO:ops.length<=10)(h1:x.l.length+12<=n)(hL:x.l.length<=100000000)(hp:∀y∈p,ofF ops y=[])(hq:∀y∈q,ofF ops y=[y]):a0C n x ops=some q:=by
 unfold a0C;have e:=of_g (n:=n) (x:=x) hO zOm hL n 0 [] zOm (Nat.zero_le _) zSi;rw[List.drop_zero,Int.natCast_zero,hx,List.flatMap_append,List.flatMap_eq_nil_iff.2 hp,flm1 hq]at e;rw[e];rfl
theorem of_r {n:Nat}{x:Nod}{o:Int}(hn:3<=n)(hL:x.l.length<=1000000000):∀(m i:Nat) (r:List Nod),x.l.length<m+i->i<=x.l.length->r.length<=i->b0D n x [o] m r i=some (r ++(x.l.drop i).filter fun y=>eqB y.op o)
 | 0,_,_,_,_,_=>zOm
 | m+1,i,r,h1,h2,h3=>by
  rw[b0D.eq_2];rcases Nat.lt_or_ge i x.l.length with h|h
  ·obtain⟨q,rfl⟩:∃q,n=q+2:=⟨n-2,zOm⟩
   have e1:idx' [o] 0=some o:=a1h (l:=[o]) (i:=0) zSi;have e2:w64 (0+1)=1:=a1i zOm zOm;have c1:ltB 0 ((1:Nat):Int)=true:=a04 zOm;have c2:ltB 1 ((1:Nat):Int)=false:=a2e zOm;rw[a04 zOm,drop_eq h];simp only[NF,b3t.eq_2,List.length_singleton,c1,c2,e1,e2,a1h h,List.filter_cons];cases hb:eqB x.l[i].op o
   ·simp only[NF,S9 (show i<=1000000000000 by omega)];exact of_r hn hL m (i+1) r zOm zOm zOm
   simp only[NF,b9R (b:=144) (show r.length+[x.l[i]].length<=400000000000 by simp;omega) zOm,S9 (show i<=1000000000000 by omega),if_true];rw[of_r hn hL m (i+1) (r++[x.l[i]]) zOm zOm (by simp;omega)];simp
  rw[a2e zOm,List.drop_of_length_le h];simp
end
theorem flo {l:List Nod}{o q:Int}(h:∀y∈l,y.op=o):l.flatMap (ofF [q])=cond (decide (o=q)) l []/\(l.filter fun y=>eqB y.op q)=cond (decide (o=q)) l []:=by
 by_cases hq:o=q
 ·rw[decide_eq_true hq];exact⟨flm1 fun y hy=>by simp[ofF,eqB,h y hy,hq],List.filter_eq_self.2 fun y hy=>a5O ((h y hy).trans hq)⟩
 rw[decide_eq_false hq];exact⟨List.flatMap_eq_nil_iff.2 fun y hy=>by simp[ofF,eqB,h y hy,hq],List.filter_eq_nil_iff.2 fun y hy=>by rw[a5N (by rw[h y hy];exact hq)];simp⟩
theorem ofs {n:Nat}{x:Nod}{o:Int}(hn:x.l.length+12<=n)(hL:x.l.length<=100000000):a0C n x [o]=some (x.l.flatMap (ofF [o]))/\a2W n x [o]=some (x.l.filter fun y=>eqB y.op o):=by
 unfold a0C a2W;have h1:=of_g (n:=n) (x:=x) (ops:=[o]) zSi zOm hL n 0 [] zOm (Nat.zero_le _) zSi;have h2:=of_r (n:=n) (x:=x) (o:=o) zOm zOm n 0 [] zOm (Nat.zero_le _) (Nat.le_refl _);simp only[List.drop_zero,List.nil_append,Int.natCast_zero]at h1 h2;rw[h1,h2];exact⟨rfl,rfl⟩
theorem c2m {n:Int}(h:-9223372036854775808<=n/\n<=9223372036854775807):rngB n=true:=by
 unfold rngB;rw[decide_eq_true h.1,decide_eq_true h.2];rfl
theorem itoas {n:Int}(h:-9223372036854775808<=n/\n<=9223372036854775807):b5q n=some (Lib.itoa n):=by
 unfold b5q;rw[c2m h]
theorem c7Z (n:Int):-9223372036854775808<=w64 n/\w64 n<=9223372036854775807:=by
 unfold w64;simp only[IntKind.wrap,IntKind.bits,IntKind.signed];simp;omega
theorem v_sub1 {n:Int}(hn:-9223372036854775808<=n/\n<=9223372036854775807):b9A (Lib.itoa n) 1 ((Lib.itoa n).length:Int)=some ((Lib.itoa n).drop 1):=by
 have h:=(b8w (c2m hn)).1;have h1:inI 1 ((Lib.itoa n).length:Int) (Lib.itoa n).length=true:=by simp[inI];omega
 simp[b9A,h1]
theorem LN:(∀{α:Type} (x:α) (r:List α),ltB 0 (((x::r).length:Nat):Int)=true)/\(∀{α:Type} (x:α) (r:List α),decide ((((x::r).length:Nat):Int)=0)=false)/\(∀{α:Type} (x:α) (r:List α),idx' (x::r) 0=some x)/\(∀{α:Type} (x y:α) (r:List α),idx' (x::y::r) 1=some y)/\(∀{α:Type} (x y z:α) (r:List α),idx' (x::y::z::r) 2=some z)/\(∀{α:Type},(((([]:List α).length):Nat):Int)=0)/\(∀{α:Type} (x:α),(([x].length:Nat):Int)=1)/\(∀{α:Type} (x y:α),(([x,y].length:Nat):Int)=2)/\(∀{α:Type} (x y z:α),(([x,y,z].length:Nat):Int)=3)/\w64 (0+1)=1/\w64 (1+1)=2/\w64 (2+1)=3/\ltB 0 0=false/\ltB 0 1=true/\ltB 0 2=true/\ltB 0 3=true/\ltB 1 0=false/\ltB 1 1=false/\ltB 1 2=true/\ltB 1 3=true/\ltB 2 0=false/\ltB 2 1=false/\ltB 2 2=false/\ltB 2 3=true/\ltB 3 0=false/\ltB 3 1=false/\ltB 3 2=false/\ltB 3 3=false:=⟨fun x r=>a04 zSi,fun x r=>decide_eq_false (by simp;omega),fun x r=>a1h (l:=x::r) (i:=0) zSi,fun x y r=>a1h (l:=x::y::r) (i:=1) zSi,fun x y z r=>a1h (l:=x::y::z::r) (i:=2) zSi,rfl,fun _=>rfl,fun _ _=>rfl,fun _ _ _=>rfl,a1i zOm zOm,a1i zOm zOm,a1i zOm zOm,by simp[ltB],by simp[ltB],by simp[ltB],by simp[ltB],by simp[ltB],by simp[ltB],by simp[ltB],by simp[ltB],by simp[ltB],by simp[ltB],by simp[ltB],by simp[ltB],by simp[ltB],by simp[ltB],by simp[ltB],by simp[ltB]⟩
theorem b75 {s:Str}(h:b4K s=true):-9223372036854775808 <=((a6w s 0:Nat):Int)/\((a6w s 0:Nat):Int)<=9223372036854775807:=by
 simp only[b4K,Bool.and_eq_true,Nat.ble_eq]at h;omega
theorem pat_w:∀(k:Nat) (x:Nod) (n n':Nat),x.sz<=k->x.sz<=1000000->bkn x<=30000->G V0 3 x->10*x.sz+10<=n->10*x.sz+10<=n'->SW (8*x.sz-2) (bkn x) (fun w=>(C8.fs n).V6 x w) (fun w=>(J9.fs n').a2M w x)
 | 0,x,n,n',h,_,_,_,_,_=>by have:=x.H8;omega
 | k+1,x,n,n',h,hs,hb,hG,hn,hn'=>by
  have hx:=x.H8;obtain⟨q,rfl⟩:∃q,n=q+3:=⟨n-3,zOm⟩
  obtain⟨p,rfl⟩:∃p,n'=p+2:=⟨n'-2,zOm⟩
  have IH:=fun{y:Nod} (hy:y.sz+2<=x.sz) (hb':bkn y<=30000) (hG:G V0 3 y)=>pat_w k y (q+1) (p+1) zOm zOm hb' hG zOm zOm;have e1:(C8.fs (q+2)).a1q=a1r (q+1) (C8.fs (q+1)):=rfl;show SW _ _ (fun w=>X8 (q+2) (C8.fs (q+2)) x w) (fun w=>a4y (p+1) (J9.fs (p+1)) w x);unfold X8 a4y a06 a1x a6q;simp only[e1];unfold a1r;cases hG with
  | wild=>exact pt
  | bnd h1 _=>exact pt
  | @pint s a h1 =>
   have fin:=And.intro (itoas (b75 (h1 rfl))) (v_sub1 (b75 (h1 rfl)));exact pt
  | @pneg s a h1 =>
   have fin:=And.intro (itoas (c7Z (0-((a6w s 0:Nat):Int)))) (v_sub1 (c7Z (0-((a6w s 0:Nat):Int))));exact pt
  | ptru=>exact pt
  | pfal=>exact pt
  | ptext _ =>
   simp only[WN]at hb;exact pt
  | @pcase s l a h1 h2 =>
   simp only[WN]at hb;cases l with
   | nil =>
    have fin:=And.intro LN (@a0I.eq_2);exact pt
   | cons y r =>
    have pr1:=fun{z:Nod} (hz:z∈y::r)=>IH (y:=z) (by have:=a0L hz;simp only[WN]at this ⊢;omega) (by have:=a6t hz;omega) (h2 z hz);have hL:=I8 (y::r);simp only[WN]at h hs hn hn' hL;have lp1:=lpw (l:=y::r) 1 (c:=fun r=>8*szN r) (b:=bkN) (L:=fun m i w=>Z5 (q+1) (C8.fs (q+1)) (y::r) m i w) (R:=fun m i w=>a0I (p+1) (J9.fs (p+1)) ⟨45,s,0,zT,[],y::r,a⟩ m w i) zOm (fun m m' i x r hx hi hi0 h1 h2 h3 hz ih=>by
     obtain⟨z1,z2⟩:=hz.resolve_left zOm;have hx1:=x.H8;simp only[Z5.eq_2,a0I.eq_2,h1,h2,h3,z1,z2];exact pt) (fun m m' h1=>by
     simp only[Z5.eq_2,a0I.eq_2,h1];exact pt) q p 1 zOm zOm zSi (Nat.le_refl _)
    simp only[List.drop_succ_cons,zD]at lp1;have hy:=y.H8;have c1:ltB 0 ((y::r).length:Int)=true:=a04 zSi;have fin:=And.intro c1 (And.intro (@Z5.eq_2) (And.intro (@a0I.eq_2) LN));exact pt
end Go.Proofs.YtimgnjbjbdgmaaaGreatDoor
