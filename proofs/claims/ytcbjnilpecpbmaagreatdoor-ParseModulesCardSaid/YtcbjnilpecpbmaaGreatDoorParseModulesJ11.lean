/- What the functions under ParseModules compute, step by step, as functions in Lean: texts that were built one by one, joined. -/
import Derived.Test.YtcbjnilpecpbmaaGreatDoorParseModulesJ10
set_option maxRecDepth 100000
set_option maxHeartbeats 20000000
set_option linter.unusedSimpArgs false
set_option linter.unusedVariables false
set_option linter.unusedSectionVars false
namespace Go.Proofs.YtcbjnilpecpbmaaGreatDoor
open Go Go.Vm
section
variable {l:List Tok} {size:Int} (C:Cx l size)
include C
theorem decl2 {n k:Nat}(hk:k<=l.length)(hn:90000<=n):S2 (QN l size k) (a0i n l (k:Int) size) (a0j n l size (k:Int) (-1)):=by
 have hl:=C.hl
 have pr1:=fun{k:Nat}=>b50 C (n:=n) (k:=k)
 have pr4:=fun{k:Nat} hk=>func2 C (n:=n) (k:=k) hk hn
 have pr5:=fun{k:Nat} hT=>c7Q C (n:=n) (k:=k) (by omega) hT
 have pr7:=fun{k:Nat} hT=>extend2 C (n:=n) (k:=k) hn hT
 have lp:=fun{A:Type} {Q:A->Nod×Bool×Int×Int->Prop} {k0:Nat} {m0:List Nod} {n1:Nod} {s:Str} {F O G P} hm hG hN hP h2 h3 h4 h5 (_:True)=>c2y C (A:=A) (Q:=Q) (n:=n) (k0:=k0) (m0:=m0) hm (by omega) (n1:=n1) (s:=s) (F:=F) (O:=O) (G:=G) (P:=P) hG hN hP n n k0 [] m0 (Nat.le_refl _) h2 h3 h4 (by simp only[szs];omega) (List.append_nil _).symm
 have lp1:=fun{A:Type} {Q:A->Nod×Bool×Int×Int->Prop} {k0:Nat} {m0:List Nod} {n1:Nod} {s:Str} {F O G} hm hF hO h2 h3 h4 (_:True)=>b9K C (A:=A) (Q:=Q) (n:=n) (k0:=k0) (m0:=m0) hm (by omega) (n1:=n1) (s:=s) (F:=F) (O:=O) (G:=G) hF hO n n k0 [] m0 (Nat.le_refl _) h2 h3 h4 (by simp only[szs];omega) (List.append_nil _).symm
 have fin:w64 (0+1)=1/\w64 (0+2)=2/\w64 (1+2)=3/\eqB (IntKind.wrap .i64 ((BitVec.ofInt 64 0 &&& BitVec.ofInt 64 1).toNat:Nat)) 0=true/\eqB (IntKind.wrap .i64 ((BitVec.ofInt 64 1 &&& BitVec.ofInt 64 1).toNat:Nat)) 0=false/\eqB (IntKind.wrap .i64 ((BitVec.ofInt 64 2 &&& BitVec.ofInt 64 1).toNat:Nat)) 0=true/\eqB (IntKind.wrap .i64 ((BitVec.ofInt 64 3 &&& BitVec.ofInt 64 1).toNat:Nat)) 0=false/\eqB 0 0=true/\eqB 2 0=false:=⟨by decide,by decide,by decide,a3V (by decide),a6z (by decide),a3V (by decide),a6z (by decide),a3V (by decide),a6z (by decide)⟩
 rcases hf:isT l 9 [102,117,110,99] k with _|_
 ·have fk:P7 n true l size (k:Int) (-1)=some (⟨7,[],0,⟨4,[],0,[]⟩,[],[],I7 l size k⟩,false,(k:Int),-1):=by
   unfold P7
   rw[a6i C.hl hk size (-1),Option.bind_some,(kyn C hk hf).2.1]
   rfl
  have fin:=And.intro fk fin
  unfold a0i a0j a1x a3I a3h a1v
  exact two
 ·unfold a0i a0j a1x a3I a3h a1v
  exact two
end
end Go.Proofs.YtcbjnilpecpbmaaGreatDoor
namespace Go.Proofs.YtcbjnilpecpbmaaGreatDoor
open Go Go.Vm
theorem idxS_ok {s:Str}{i:Nat}(h:i<s.length):idxS s (i:Int)=some ((s[i]).toNat:Int):=by
 have h1:inR (i:Int) s.length=true:=by simp[inR,h]
 simp[idxS,h1,h]
theorem wrap8 {a:Int}(h1:0<=a)(h2:a<=255):IntKind.wrap .u8 a=a:=by
 simp only[IntKind.wrap,IntKind.bits,IntKind.signed]
 simp
 omega
theorem c3e {n:Nat}{s:Str}(hb:b5U s=true)(hm:a6w s 0<=9223372036854775807)(hlen:s.length<=100):∀(m i acc:Nat),i<=s.length->s.length-i<m->a6w (s.drop i) acc=a6w s 0->a3r n s m (acc:Int) (i:Int)=some ((a6w s 0:Nat):Int)
 | 0,i,acc,h1,h2,h3=>by omega
 | m+1,i,acc,h1,h2,h3=>by
  simp only[a3r]
  rcases Nat.lt_or_ge i s.length with h|h
  ·rw[List.drop_eq_getElem_cons h,a6g]at h3
   have hd:48 <=(s[i]).toNat/\(s[i]).toNat<=57:=by
    simp only[b5U,List.all_eq_true,Bool.and_eq_true,Nat.ble_eq]at hb
    exact hb _ (List.getElem_mem h)
   have hg:=c0M (s.drop (i+1)) (acc*10+((s[i]).toNat-48))
   rw[a5H (by omega),cond_true,idxS_ok h,Option.bind_some,a5l (a:=(acc:Int)*10) (by omega) (by omega),wrap8 (by omega) (by omega),a5l (a:=((s[i]).toNat:Int)-48) (by omega) (by omega),a5l (a:=(acc:Int)*10+_) (by omega) (by omega),a0r (by omega)]
   rw[show(acc:Int)*10+(((s[i]).toNat:Int)-48) =((acc*10+((s[i]).toNat-48):Nat):Int)from by omega]
   exact c3e hb hm hlen m (i+1) _ h (by omega) h3
  ·rw[a6G (by omega),cond_false]
   rw[List.drop_eq_nil_of_le h]at h3
   have h3:acc=a6w s 0:=h3
   rw[h3]
theorem num_ok {n:Nat}{s:Str}(h:digB s=true)(hn:100<=n):a1m n s=some ((a6w s 0:Nat):Int):=by
 simp only[digB,Bool.and_eq_true,Nat.ble_eq]at h
 obtain⟨h1,h2,h3,h4⟩:=h
 unfold a1m
 have:=c3e (n:=n) h1 h4 (by omega) n 0 0 (Nat.zero_le _) (by omega) rfl
 have this:a3r n s n 0 0=some ((a6w s 0:Nat):Int):=this
 rw[this];rfl
theorem cx_ok (s:Str):Cx (b1e (Sc.a5t s)) (List.length s:Int):=by
 refine⟨tokL_len s,fun k=>?_,fun k hk=>?_⟩
 ·unfold I7
  cases h:(b1e (Sc.a5t s))[k]? with
  | none=>show(0:Int) <=(List.length s:Int);omega
  | some t =>
   show 0<=t.at_
   cases hr:Sc.a5t s with
   | done l =>
    rw[hr]at h
    simp only[b1e,List.getElem?_map]at h
    cases hq:l[k]? with
    | none=>rw[hq]at h;cases h
    | some u=>rw[hq]at h;cases h;show(0:Int) <=((u.a:Nat):Int);omega
   | _=>rw[hr]at h;simp[b1e]at h
 ·unfold isK at hk
  unfold N8
  cases h:(b1e (Sc.a5t s))[k]? with
  | none=>rw[h]at hk;cases hk
  | some t =>
   rw[h]at hk
   have hk:t.kind=3:=by simpa [eqB]using hk
   cases hr:Sc.a5t s with
   | done l =>
    rw[hr]at h
    simp only[b1e,List.getElem?_map]at h
    cases hq:l[k]? with
    | none=>rw[hq]at h;cases h
    | some u =>
     rw[hq]at h;cases h
     have hb:=Sc.int_digB (Sc.tok_int hr u (List.mem_of_getElem? hq) hk)
     exact⟨(a6w u.t 0:Nat),by omega,by show atoi u.t=_;unfold atoi;rw[hb],fun n hn=>num_ok hb (by omega)⟩
   | _=>rw[hr]at h;simp[b1e]at h
theorem c7a {n:Nat}{x:Nod}{Φ:Q8}{Ψ:Q9}(hlen:x.l.length<=100000)(hΦ:∀y∈x.l,∃r,Φ.a2w y=some r/\Ψ.a2x y=some r) :
  ∀(m i:Nat) (a b:Int),i<=x.l.length->x.l.length-i<m -> ∃r,a5I n Φ x m a b (i:Int)=some r/\a5M n Ψ x m a b (i:Int)=some r
 | 0,i,a,b,h1,h2=>by omega
 | m+1,i,a,b,h1,h2=>by
  simp only[a5I,a5M]
  by_cases hi:i<x.l.length
  ·rw[a5H (by omega),cond_true,cond_true,a2O hi,Option.bind_some,Option.bind_some]
   obtain⟨⟨r1,r2⟩,g1,g2⟩:=hΦ x.l[i] (List.getElem_mem hi)
   rw[g1,g2,Option.bind_some,Option.bind_some]
   simp only
   rw[a5l (a:=(i:Int)+1) (by omega) (by omega)]
   exact c7a hlen hΦ m (i+1) _ _ hi (by omega)
  ·rw[a6G (by omega),cond_false,cond_false]
   exact⟨(a,b),rfl,rfl⟩
theorem sz_ok:∀(k:Nat) (x:Nod) (n:Nat),x.sz<=k->x.sz<=100000->x.sz+1<=n -> ∃r,a2w n x=some r/\a2x n x=some r
 | 0,x,n,h1,h2,h3=>by have:=x.a2t;omega
 | k+1,x,0,h1,h2,h3=>by omega
 | k+1,x,n+1,h1,h2,h3=>by
  have hs:=x.a2t
  have hl:=a0Z x.l
  show ∃r,a6J n (Q8.fs n) x=some r/\a6U n (Q9.fs n) x=some r
  unfold a6J a6U
  obtain⟨⟨r1,r2⟩,g1,g2⟩:=c7a (n:=n) (x:=x) (Φ:=Q8.fs n) (Ψ:=Q9.fs n) (by omega) (fun y hy=>sz_ok k y n (by have:=b1S hy;omega) (by have:=b1S hy;omega) (by have:=b1S hy;omega)) n 0 1 0 (Nat.zero_le _) (by omega)
  have g1:a5I n (Q8.fs n) x n 1 0 0=some (r1,r2):=g1
  have g2:a5M n (Q9.fs n) x n 1 0 0=some (r1,r2):=g2
  rw[g1,g2]
  exact⟨_,rfl,rfl⟩
theorem Typ.sz_pos (x:Typ):1<=x.sz:=by rw[x.a2t];omega
theorem c6s {n:Nat}{l:List Typ}{Φ:G9}(hlen:l.length<=100000)(hΦ:∀y∈l,Φ.a0c y y=some true):∀(m i:Nat),i<=l.length->l.length-i<m->a4o n Φ l l m (i:Int)=some (.brk ())
 | 0,i,h1,h2=>by omega
 | m+1,i,h1,h2=>by
  simp only[a4o]
  by_cases hi:i<l.length
  ·rw[a5H (by omega),cond_true,a2O hi,Option.bind_some,Option.bind_some,hΦ _ (List.getElem_mem hi),Option.bind_some]
   simp only[Bool.not_true,cond_false]
   rw[a5l (by omega) (by omega)]
   exact c6s hlen hΦ m (i+1) hi (by omega)
  ·rw[a6G (by omega),cond_false]
theorem ets_ok {l:List Typ}{n:Nat}(hlen:l.length<=100000)(hn:l.length+1<=n)(hΦ:∀y∈l,(G9.fs n).a0c y y=some true):(G9.fs (n+1)).Y6 l l=some true:=by
 show a4L n (G9.fs n) l l=some true
 unfold a4L
 rw[a3V rfl]
 simp only[Bool.not_true,cond_false]
 have h:a4o n (G9.fs n) l l n 0=some (.brk ()):=c6s hlen hΦ n 0 (Nat.zero_le _) (by omega)
 rw[h];rfl
theorem et_ok:∀(k:Nat) (t:Typ) (n:Nat),t.sz<=k->t.sz<=100000->2*t.sz+1<=n ->(G9.fs n).a0c t t=some true
 | 0,t,n,h1,h2,h3=>by have:=t.sz_pos;omega
 | k+1,t,0,h1,h2,h3=>by omega
 | k+1,t,1,h1,h2,h3=>by have:=t.sz_pos;omega
 | k+1,t,n+2,h1,h2,h3=>by
  have hs:=t.a2t
  have hl:=b3W t.args
  show a5i (n+1) (G9.fs (n+1)) t t=some true
  unfold a5i
  rw[a3V rfl,a2B,a3V rfl,cond_true,cond_true,cond_true,ets_ok (by omega) (by omega) (fun y hy=>et_ok k y n (by have:=b3X hy;omega) (by have:=b3X hy;omega) (by have:=b3X hy;omega))]
  rfl
theorem ets_all {l:List Typ}{n:Nat}(hf:szT l<=100000)(hn:2*szT l+2<=n):(G9.fs n).Y6 l l=some true:=by
 have hl:=b3W l
 cases n with
 | zero=>omega
 | succ n=>exact ets_ok (by omega) (by omega) (fun y hy=>et_ok y.sz y n (Nat.le_refl _) (by have:=b3X hy;omega) (by have:=b3X hy;omega))
theorem c6r {n:Nat}{l:List Nod}{Φ:I5}(hlen:l.length<=100000)(hΦ:∀y∈l,Φ.a0F y y true=some true):∀(m i:Nat),i<=l.length->l.length-i<m->a4n n Φ l true l m (i:Int)=some (.brk ())
 | 0,i,h1,h2=>by omega
 | m+1,i,h1,h2=>by
  simp only[a4n]
  by_cases hi:i<l.length
  ·rw[a5H (by omega),cond_true,a2O hi,Option.bind_some,Option.bind_some,hΦ _ (List.getElem_mem hi),Option.bind_some]
   simp only[Bool.not_true,cond_false]
   rw[a5l (by omega) (by omega)]
   exact c6r hlen hΦ m (i+1) hi (by omega)
  ·rw[a6G (by omega),cond_false]
theorem en_ok:∀(k:Nat) (x:Nod) (n:Nat),x.sz<=k->x.sz<=100000->2*x.sz+2<=n ->(I5.fs n).a0F x x true=some true
 | 0,x,n,h1,h2,h3=>by have:=x.a2t;omega
 | k+1,x,0,h1,h2,h3=>by omega
 | k+1,x,1,h1,h2,h3=>by omega
 | k+1,x,n+2,h1,h2,h3=>by
  have hs:=x.a2t
  have hl:=a0Z x.l
  show a5h (n+1) (I5.fs (n+1)) x x true=some true
  unfold a5h
  have e1:a0c (n+1) x.t x.t=some true:=et_ok x.t.sz x.t (n+1) (Nat.le_refl _) (by omega) (by omega)
  have e2:Y6 (n+1) x.ts x.ts=some true:=ets_all (by omega) (by omega)
  have e3:(I5.fs (n+1)).a1d x.l x.l true=some true:=by
   show a4K n (I5.fs n) x.l x.l true=some true
   unfold a4K
   rw[a3V rfl]
   simp only[Bool.not_true,cond_false]
   have h:a4n n (I5.fs n) x.l true x.l n 0=some (.brk ()):=c6r (by omega) (fun y hy=>en_ok k y n (by have:=b1S hy;omega) (by have:=b1S hy;omega) (by have:=b1S hy;omega)) n 0 (Nat.zero_le _) (by omega)
   rw[h];rfl
  rw[a3V rfl,a2B,a3V rfl,a3V rfl]
  simp only[Bool.not_true,cond_false,cond_true]
  rw[e1,Option.bind_some]
  simp only[Bool.not_true,cond_false]
  rw[e2,Option.bind_some]
  simp only[Bool.not_true,Option.bind_some,cond_false]
  rw[e3];rfl
theorem eq_self {n:Nat}{x:Nod}(h:x.sz<=40000)(hn:90000<=n):a0F n x x true=some true:=en_ok x.sz x n (Nat.le_refl _) (by omega) (by omega)
def brT (t:Tok):Int:=cond (eqB t.kind 8) (cond (eqS t.text [123]) 1 (cond (eqS t.text [125]) (-1) 0)) 0
def bgW:List Str:=[[115,116,114,117,99,116],[101,110,117,109],[99,108,97,115,115],[112,114,111,116,111,99,111,108],[101,120,116,101,110,100],[102,117,110,99],[109,111,118,101,111,110,108,121],[102,114,111,122,101,110]]
def bgT (t:Tok):Bool:=eqB t.kind 9&&bgW.any (eqS t.text)
theorem brT_le (t:Tok):-1<=brT t/\brT t<=1:=by
 unfold brT
 cases eqB t.kind 8<;>cases eqS t.text [123]<;>cases eqS t.text [125]<;>decide
theorem c2u (t:Tok):a5j t=some (brT t):=by
 unfold a5j brT
 cases eqB t.kind 8<;>cases eqS t.text [123]<;>cases eqS t.text [125]<;>rfl
theorem c7i (t:Tok):a6V t=some (bgT t):=by
 unfold a6V bgT bgW
 simp only[List.any_cons,List.any_nil,Bool.or_false]
 cases eqB t.kind 9
 ·rfl
 simp only[Bool.not_true,cond_false,Bool.true_and]
 generalize eqS t.text [115,116,114,117,99,116]=b1
 generalize eqS t.text [101,110,117,109]=b2
 generalize eqS t.text [99,108,97,115,115]=b3
 generalize eqS t.text [112,114,111,116,111,99,111,108]=b4
 generalize eqS t.text [101,120,116,101,110,100]=b5
 generalize eqS t.text [102,117,110,99]=b6
 generalize eqS t.text [109,111,118,101,111,110,108,121]=b7
 generalize eqS t.text [102,114,111,122,101,110]=b8
 cases b1<;>cases b2<;>cases b3<;>cases b4<;>cases b5<;>cases b6<;>cases b7<;>cases b8<;>rfl
theorem c0m {n m i:Nat}{l:List Tok}{o r:Int}(hl:l.length<=3000)(hn:20000<=n)(hi:i<l.length)(ho:-3000<=o)(ho2:o<=3000):S9 n l (m+1) o (i:Int) r=cond (leB r i&&(leB o 0&&bgT l[i])) (some (.out (i:Int))) (S9 n l m (o+brT l[i]) ((i+1:Nat):Int) r):=by
 simp only[S9]
 rw[a5H (by omega),cond_true,a2O hi,Option.bind_some,b6A _ _ (by simp) (by simp only[List.length_cons,List.length_nil];omega),a0r (by omega),a5l (a:=o+1) (by omega) (by omega),a5l (a:=o-1) (by omega) (by omega)]
 show a3U (Option.bind (cond (leB r i) (cond (leB o 0) (cond (eqB (l[i]).kind 9) ((some (bgW.any (eqS (l[i]).text))).bind fun r6=>some r6) (some false)) (some false)) (some false)) _) _=_
 unfold bgT brT
 generalize bgW.any (eqS (l[i]).text)=bb
 cases leB r i<;>cases leB o 0<;>cases eqB (l[i]).kind 9<;>cases bb<;>cases eqB (l[i]).kind 8<;>cases eqS (l[i]).text [123]<;>cases eqS (l[i]).text [125]<;>first
  | rfl
  |(simp only[Option.bind_some,cond_true,cond_false,a2n,a4i,Bool.and_true,Bool.and_false,Bool.true_and,Bool.false_and,Int.add_zero];done)
  |(simp only[Option.bind_some,cond_true,cond_false,a2n,a4i,Bool.and_true,Bool.and_false,Bool.true_and,Bool.false_and,Int.add_zero];rfl)
theorem rec_1 {n r:Nat}{l:List Tok}(hl:l.length<=3000)(hn:20000<=n)(hr:r<=l.length):∀(d i m m':Nat) (o:Int),i+d=r->d<=m->d<m' -> -(i:Int)<=o->o<=i -> ∃o':Int,-(r:Int)<=o'/\o'<=r/\S9 n l m o (i:Int) (r:Int)=S9 n l (m-d) o' (r:Int) (r:Int)/\a3k n l m' (r:Int) o (i:Int)=some ((r:Int),o')
 | 0,i,m,m'+1,o,h1,h2,h3,h4,h5=>by
  obtain rfl:i=r:=h1
  refine⟨o,h4,h5,rfl,?_⟩
  rw[a3k.eq_2,a6G (by omega)]
  rfl
 | d+1,i,m+1,m'+1,o,h1,h2,h3,h4,h5=>by
  have hi:i<l.length:=by omega
  have hb:=brT_le l[i]
  obtain⟨o',g1,g2,g3,g4⟩:=rec_1 hl hn hr d (i+1) m m' (o+brT l[i]) (by omega) (by omega) (by omega) (by omega) (by omega)
  refine⟨o',g1,g2,?_,?_⟩
  ·rw[c0m hl hn hi (by omega) (by omega),c2V (by omega),Bool.false_and,cond_false,g3,Nat.add_sub_add_right]
  ·rw[a3k.eq_2,a5H (by omega),cond_true,a5H (by omega),Option.bind_some,cond_true,a2O hi,Option.bind_some,c2u,Option.bind_some,a5l (a:=o+brT l[i]) (by omega) (by omega),a0r (by omega)]
   exact g4
theorem rec_2 {n r:Nat}{l:List Tok}(hl:l.length<=3000)(hn:20000<=n):∀(d i m m':Nat) (o:Int),i+d=l.length->d<m->d<m'->r<=i -> -(i:Int)<=o->o<=i -> ∃j:Nat,i<=j/\j<=l.length/\(M4 (S9 n l m o (i:Int) (r:Int)) fun _=>some (l.length:Int))=some (j:Int)/\a03 n l m' (i:Int) o=some (j:Int)
 | 0,i,m+1,m'+1,o,h1,h2,h3,h4,h5,h6=>by
  refine⟨l.length,by omega,Nat.le_refl _,?_,?_⟩
  ·simp only[S9]
   rw[a6G (by omega),cond_false]
   rfl
  ·rw[a03.eq_2,a6G (by omega),show i=l.length from h1]
   rfl
 | d+1,i,m+1,m'+1,o,h1,h2,h3,h4,h5,h6=>by
  have hi:i<l.length:=by omega
  have hb:=brT_le l[i]
  obtain⟨j,g1,g2,g3,g4⟩:=rec_2 (r:=r) hl hn d (i+1) m m' (o+brT l[i]) (by omega) (by omega) (by omega) (by omega) (by omega) (by omega)
  have e9:((idx' l (i:Int)).bind fun x8=>(a5j x8).bind fun r9=>a03 n l m' (w64 ((i:Int)+1)) (w64 (o+r9)))=a03 n l m' ((i+1:Nat):Int) (o+brT l[i]):=by
   rw[a2O hi,Option.bind_some,c2u,Option.bind_some,a5l (a:=o+brT l[i]) (by omega) (by omega),a0r (by omega)]
  rw[c0m hl hn hi (by omega) (by omega),c2W (by omega),Bool.true_and,a03.eq_2,a5H (by omega),cond_true,e9,a2O hi,Option.bind_some,c7i,Option.bind_some]
  cases leB o 0<;>cases bgT l[i]<;>first
   | exact⟨j,by omega,g2,g3,g4⟩
   | exact⟨i,Nat.le_refl _,by omega,rfl,rfl⟩
theorem rec_ok {n:Nat}{l:List Tok}{size:Int}(hl:l.length<=3000)(hn:20000<=n){k q:Nat}(hk:k<l.length)(hq:k<=q)(hq2:q<=l.length):∃j:Nat,a2G n (k:Int) l (q:Int) size=some (j:Int)/\a4O n l (k:Int) (q:Int)=some (j:Int)/\k<j/\j<=l.length:=by
 obtain⟨r,hr,hr2,r1,r2⟩:∃r:Nat,cond (eqB (q:Int) (k:Int)) (some (w64 ((q:Int)+1))) (some (q:Int))=some (r:Int)/\cond (eqB (q:Int) (k:Int)) (some (w64 ((k:Int)+1))) (some (q:Int))=some (r:Int)/\k<r/\r<=l.length:=by
  by_cases h:q=k
  ·subst h
   rw[a3V rfl,cond_true,a0r (by omega)]
   exact⟨q+1,rfl,rfl,by omega,by omega⟩
  ·rw[a6z (by omega),cond_false]
   exact⟨q,rfl,rfl,by omega,hq2⟩
 unfold a2G a4O
 rw[hr,hr2,Option.bind_some,Option.bind_some]
 obtain⟨o,o1,o2,o3,o4⟩:=rec_1 hl hn r2 (r-k) k n n 0 (by omega) (by omega) (by omega) (by omega) (by omega)
 obtain⟨j,j1,j2,j3,j4⟩:=rec_2 (r:=r) hl hn (l.length-r) r (n-(r-k)) n o (by omega) (by omega) (by omega) (Nat.le_refl _) o1 o2
 rw[o3,o4,Option.bind_some]
 simp only
 rw[j4,j3,Option.bind_some]
 refine⟨j,rfl,?_,by omega,j2⟩
 rw[Int.min_eq_left (by omega)]
theorem b3P {n:Nat}{src:Str}{l:List Tok}(C:Cx l (List.length src:Int))(hn:90000<=n):∀(m m' k:Nat) (fs:List Flt) (ds:List Nod) (total:Int),k<=l.length->l.length-k<m->l.length-k<m'->fs.length<=20->szN ds<=4*k ->
  ∃gs es,a0D n src l m total fs ds (k:Int)=some (gs,es)/\a0E n l src m' total fs (k:Int) (-1) ds=some (gs,es)/\szN es<=12000/\gs.length<=20
 | 0,m',k,fs,ds,total,h1,h2,h3,h4,h5=>by omega
 | m+1,0,k,fs,ds,total,h1,h2,h3,h4,h5=>by omega
 | m+1,m'+1,k,fs,ds,total,h1,h2,h3,h4,h5=>by
  have hl:=C.hl
  have hlen:=a0Z ds
  rw[a0D.eq_2,a0E.eq_2]
  by_cases hk:k<l.length
  case neg =>
   rw[a6G (by omega)]
   exact⟨fs,ds,rfl,rfl,by omega,h4⟩
  rw[a5H (by omega),cond_true]
  by_cases hf:fs.length<20
  case neg =>
   rw[a6G (by omega)]
   exact⟨fs,ds,rfl,rfl,by omega,h4⟩
  rw[a5H (by omega),Option.bind_some,Option.bind_some,cond_true,b7g hl h1,Option.bind_some]
  have hat:(l[k]).at_=I7 l (List.length src:Int) k:=by unfold I7;rw[List.getElem?_eq_getElem hk]
  have ap:∀f:Flt,app 16 fs ([f]:List Flt)=some (fs++[f]):=fun f=>a6d (by omega) (by simp) (by omega)
  have ln:∀f:Flt,(fs++[f]).length<=20:=fun f=>by simp;omega
  unfold a3B a5U
  obtain⟨a,b,p1,p2,hq⟩:=decl2 C (n:=n) h1 hn
  rw[p1,p2]
  cases a with
  | ok x =>
   obtain⟨x,q⟩:=x
   obtain⟨q,rfl,rfl,q1,q2,q3⟩:=hq
   have hx:=x.a2t
   simp only[P6,Option.bind_some,cond_true]
   rw[a3V (a:=(0:Int)) rfl]
   simp only[Bool.and_self,Bool.not_true,cond_false]
   obtain⟨⟨r1,r2⟩,y1,y2⟩:=sz_ok x.sz x n (Nat.le_refl _) (by omega) (by omega)
   simp only[y1,y2,Option.bind_some]
   rw[Int.add_comm 1 r2,a2O hk,Option.bind_some,Option.bind_some,hat]
   have on:∀f:Flt,∃gs es,a0D n src l m total (fs++[f]) ds (q:Int)=some (gs,es)/\a0E n l src m' total (fs++[f]) (q:Int) (-1) ds=some (gs,es)/\szN es<=12000/\gs.length<=20 :=
    fun f=>b3P C hn m m' q (fs++[f]) ds total q2 (by omega) (by omega) (ln f) (by omega)
   rw[ap,ap,Option.bind_some,Option.bind_some]
   cases ltB 40 (w64 (r2+1))with
   | true=>exact on _
   | false =>
    cases ltB 4000 (w64 (total+r1))with
    | true=>exact on _
    | false =>
     simp only[cond_false]
     rw[a6d (by omega) (by simp) (by omega),Option.bind_some,Option.bind_some]
     exact b3P C hn m m' q fs (ds++[x]) _ q2 (by omega) (by omega) h4 (by simp only[szs];omega)
  | pan x =>
   obtain⟨e,q⟩:=x
   obtain⟨q,x,pl,rfl,rfl,q1,q2,q3⟩:=hq
   obtain⟨j,j1,j2,j3,j4⟩:=rec_ok (size:=(List.length src:Int)) hl (n:=n) (by omega) hk q1 q2
   have go:∀f:Flt,∃gs es,a0D n src l m total (fs++[f]) ds (j:Int)=some (gs,es)/\a0E n l src m' total (fs++[f]) (j:Int) (-1) ds=some (gs,es)/\szN es<=12000/\gs.length<=20 :=
    fun f=>b3P C hn m m' j (fs++[f]) ds total j4 (by omega) (by omega) (ln f) (by omega)
   simp only[O8,Option.bind_some,cond_false]
   rcases q3 with⟨rfl,rfl⟩ |⟨h6,rfl⟩
   ·rw[a6z (a:=(20:Int)) (by decide),c2V (by decide),a6i hl q2]
    simp only[Bool.false_and,Bool.not_false,cond_true,cond_false,Option.bind_some,ap,j1,j2]
    exact go _
   ·rw[a6z (a:=(22:Int)) (by decide),c2W h6]
    simp only[Bool.false_and,Bool.not_false,cond_true,cond_false,Option.bind_some,ap,j1,j2]
    exact go _
theorem c3d {n:Nat}(hn:90000<=n)(s:Str):∃(x:Nod) (fs:List Flt),a6I n s=some (x,fs)/\a6T n s=some (x,fs)/\x.sz<=12010/\fs.length<=20:=by
 have hs:a7M s=some (b1e (Sc.a5t s),b5N (Sc.a5t s),tokA (Sc.a5t s)):=rfl
 have C:=cx_ok s
 unfold a6I a6T a9P
 rw[hs]
 simp only[Option.bind_some]
 rcases tok_code s with⟨h1,h2⟩ |⟨h1,h2⟩
 ·rw[h1,h2,a3V (a:=(0:Int)) rfl]
  simp only[Bool.and_self,Bool.not_true,cond_false]
  have hl:=C.hl
  obtain⟨gs,es,g1,g2,g3,g4⟩:=b3P C hn n n 0 [] [] 1 (Nat.zero_le _) (by omega) (by omega) (by simp) (by simp[szN])
  have g1:a0D n s (b1e (Sc.a5t s)) n 1 [] [] 0=some (gs,es):=g1
  have g2:a0E n (b1e (Sc.a5t s)) s n 1 [] 0 (-1) []=some (gs,es):=g2
  rw[g1,g2]
  exact⟨_,_,rfl,rfl,by simp only[szs];omega,g4⟩
 ·rw[a6z h1]
  exact⟨_,_,rfl,rfl,by simp only[szs];omega,by simp⟩
theorem b9J {n:Nat}{l:List Flt}(hl:l.length<=20):∀(m i:Nat),i<=l.length->l.length-i<m->a2C n l l m (i:Int)=some (.brk ())
 | 0,i,h1,h2=>by omega
 | m+1,i,h1,h2=>by
  rw[a2C.eq_2]
  by_cases hi:i<l.length
  ·rw[a5H (by omega),cond_true,a2O hi,Option.bind_some,Option.bind_some,a3V rfl,a3V rfl,a0r (by omega)]
   exact b9J hl m (i+1) hi (by omega)
  ·rw[a6G (by omega),cond_false]
theorem c07 {n:Nat}(hn:90000<=n)(s:Str):a4B n s=some true:=by
 unfold a4B b1p
 rw[Option.bind_some]
 cases ltB 8200 (List.length s:Int)with
 | true=>rfl
 | false =>
  rw[cond_false]
  obtain⟨x,fs,h1,h2,h3,h4⟩:=c3d hn s
  have hf:a2C n fs fs n 0=some (.brk ()):=b9J h4 n 0 (Nat.zero_le _) (by omega)
  rw[h1,h2]
  simp only[Option.bind_some]
  unfold a5p
  rw[a3V rfl,hf]
  simp only[Bool.not_true,cond_false,a0s,Option.bind_some,cond_true]
  rw[eq_self (by omega) hn]
  rfl
end Go.Proofs.YtcbjnilpecpbmaaGreatDoor
