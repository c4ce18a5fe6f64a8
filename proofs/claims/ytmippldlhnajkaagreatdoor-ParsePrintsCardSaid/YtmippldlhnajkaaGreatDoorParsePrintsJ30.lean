/- Texts of ParsePrints, joined. -/
import Derived.Test.YtmippldlhnajkaaGreatDoorParsePrintsJ29
set_option maxRecDepth 100000
set_option maxHeartbeats 20000000
set_option linter.unusedSimpArgs false
set_option linter.unusedVariables false
set_option linter.unusedSectionVars false
namespace Go.Proofs.YtmippldlhnajkaaGreatDoor
open Go Go.Vm Pr
section
variable {s:Str} {a k:Int} {bs:List Nod} {t:Typ} {x:Nod} {m n:List Nod}
theorem dm_f (h:s.length<=20000)(hg:GT t):DM ⟨13,s,k,t,[],[],a⟩:=.field h hg
theorem dm_c {ts:List Typ}(h:s.length<=20000)(hg:∀t∈ts,GT t):DM ⟨14,s,k,zT,ts,[],a⟩:=.case h hg
theorem dm_c0 (h:s.length<=20000)(_ _:True):DM ⟨14,s,k,zT,[],[],a⟩:=.case h (fun _ h=>by cases h)
theorem da_i (h:s.length<=20000)(hb:∀y∈bs,DB y):DA ⟨16,s,0,zT,[],bs,a⟩:=⟨_,_,_,rfl,h,hb⟩
theorem dl_i (h:s.length<=20000)(hg:GT t):DL ⟨17,s,0,t,[],[],a⟩:=⟨_,_,_,rfl,h,hg⟩
theorem all_or {P Q:Nod->Prop}(h1:∀y∈m,P y)(h2:∀y∈n,Q y):∀y∈m++n,P y∨Q y:=fun y h=>by
 rcases List.mem_append.1 h with h|h
 ·exact .inl (h1 y h)
 ·exact .inr (h2 y h)
end
def OpK (op kk:Int):Prop:=op=2/\(kk=0∨kk=1∨kk=2∨kk=3)∨op=3/\(kk=0∨kk=2)∨op=4/\kk=0
theorem FLd:decide (IntKind.wrap .i64 ((BitVec.ofInt 64 0 &&& BitVec.ofInt 64 1).toNat:Nat)=0)=true/\decide (IntKind.wrap .i64 ((BitVec.ofInt 64 0 &&& BitVec.ofInt 64 2).toNat:Nat)=0)=true/\decide (IntKind.wrap .i64 ((BitVec.ofInt 64 1 &&& BitVec.ofInt 64 1).toNat:Nat)=0)=false/\decide (IntKind.wrap .i64 ((BitVec.ofInt 64 1 &&& BitVec.ofInt 64 2).toNat:Nat)=0)=true/\decide (IntKind.wrap .i64 ((BitVec.ofInt 64 2 &&& BitVec.ofInt 64 1).toNat:Nat)=0)=true/\decide (IntKind.wrap .i64 ((BitVec.ofInt 64 2 &&& BitVec.ofInt 64 2).toNat:Nat)=0)=false/\decide (IntKind.wrap .i64 ((BitVec.ofInt 64 3 &&& BitVec.ofInt 64 1).toNat:Nat)=0)=false/\decide (IntKind.wrap .i64 ((BitVec.ofInt 64 3 &&& BitVec.ofInt 64 2).toNat:Nat)=0)=false/\w64 (0+2)=2/\w64 (1+2)=3:=by decide
section
variable {l:List Tok} {size:Int} (C:Cx l)
include C
theorem rec_lp {n k0 k1:Nat}(hk:k0<=k1){pl:Int}{n1:Nod}{r6:Str}{gs:List Nod}{F:List Nod×Int->Option (Nod×Bool×Int×Int)}(hn:1000000<=n)(hg:gs.length<=30000)(hF:∀{k:Nat} {ms:List Nod},k1<=k->k<=l.length->szN ms+4*k1<=4*k->ms.length<=12000 ->(∀x∈ms,DM x)->S1 (QN l DD k0) (F (gs++ms,(k:Int)))):∀(m k:Nat) (ms zs:List Nod),k1<=k->k<=l.length->l.length+1<m+k->zs=gs++ms->szN ms+4*k1<=4*k ->(∀x∈ms,DM x)->S1 (QN l DD k0) (bS (a3k n size l n1 pl r6 m zs (k:Int)) F some)
 | m+1,k,ms,_,h1,h2,h3,rfl,h4,h5=>by
  have hl:=C.hl;have hx:=G5 ms;have hO:=fun{s a k t}=>@dm_f s a k t;have pt1:=fun{pl:Int} {k:Nat} (h1:k<=l.length) (_:True)=>(ht C (size:=size) n).1 (pl:=pl) h1 (by omega);have ih:=fun{k:Nat} {xs zs:List Nod} h1 h2 h3 h4 h5 h6=>rec_lp hk (n1:=n1) (r6:=r6) (pl:=pl) hn hg hF m k xs zs h1 h2 h3 h4 h5 h6;have lp1:=fun{k:Nat} {ms:List Nod} h1 h2 h3 h4=>hF (k:=k) (ms:=ms) h1 h2 h3 (by have:=G5 ms;omega) h4;clear hF;rw[a3k.eq_2];exact one
 | 0,_,_,_,_,_,_,_,_,_=>by omega
theorem c7K {n k0 k1:Nat}(hk:k0<=k1){pl:Int}{n1:Nod}{r6:Str}{gs:List Nod}{F:List Nod×Int->Option (Nod×Bool×Int)}(hn:1000000<=n)(hg:gs.length<=30000)(hF:∀{k:Nat} {ms:List Nod},k1<=k->k<=l.length->szN ms+4*k1<=4*k->ms.length<=12000 ->(∀x∈ms,DM x)->S1 (QP l DD k0) (F (gs++ms,(k:Int)))):∀(m k:Nat) (ms zs:List Nod),k1<=k->k<=l.length->l.length+1<m+k->zs=gs++ms->szN ms+4*k1<=4*k ->(∀x∈ms,DM x)->S1 (QP l DD k0) (bS (a3Y n size l n1 pl r6 m zs (k:Int)) F some)
 | m+1,k,ms,_,h1,h2,h3,rfl,h4,h5=>by
  have hl:=C.hl;have hx:=G5 ms;have hF':=fun{s a k ts}=>@dm_c s a k ts;have hO:=fun{s a k}=>@dm_c0 s a k;have pt3:=fun{pl:Int} {k:Nat} (h1:k<=l.length) (_:True)=>(ht C (size:=size) n).2.1 (pl:=pl) h1 (by omega);have ih:=fun{k:Nat} {xs zs:List Nod} h1 h2 h3 h4 h5 h6=>c7K hk (n1:=n1) (r6:=r6) (pl:=pl) hn hg hF m k xs zs h1 h2 h3 h4 h5 h6;have lp1:=fun{k:Nat} {ms:List Nod} h1 h2 h3 h4=>hF (k:=k) (ms:=ms) h1 h2 h3 (by have:=G5 ms;omega) h4;clear hF;have hF:=fun{s a k ts}=>@dm_c s a k ts;clear hF';rw[a3Y.eq_2];exact one
 | 0,_,_,_,_,_,_,_,_,_=>by omega
theorem c44 {n k0 k1:Nat}(hk:k0<=k1){n1:Nod}{r6:Str}{gs:List Nod}{F:List Nod×Int×Int->Option (Nod×Bool×Int×Int)}(hn:1000000<=n)(hg:gs.length<=30000)(hF:∀{k:Nat} {pl:Int} {ms:List Nod},k1<=k->k<=l.length->szN ms+4*k1<=4*k->ms.length<=12000 ->(∀x∈ms,DF 0 x)->S1 (QN l DD k0) (F (gs++ms,(k:Int),pl))):∀(m k:Nat) (pl:Int) (ms zs:List Nod),k1<=k->k<=l.length->l.length+1<m+k->zs=gs++ms->szN ms+4*k1<=4*k ->(∀x∈ms,DF 0 x)->S1 (QN l DD k0) (bS (a1V n size l n1 r6 m zs (k:Int) pl) F some)
 | m+1,k,pl,ms,_,h1,h2,h3,rfl,h4,h5=>by
  have hl:=C.hl;have hx:=G5 ms;have pn1:=fun{pl:Int} {k:Nat} (h1:k<=l.length) (_:True)=>fun0 C (size:=size) (n:=n) (pl:=pl) h1 hn;have ih:=fun{k:Nat} {pl:Int} {xs zs:List Nod} h1 h2 h3 h4 h5 h6=>c44 hk (n1:=n1) (r6:=r6) hn hg hF m k pl xs zs h1 h2 h3 h4 h5 h6;have lp1:=fun{k:Nat} {pl:Int} {ms:List Nod} h1 h2 h3 h4=>hF (k:=k) (pl:=pl) (ms:=ms) h1 h2 h3 (by have:=G5 ms;omega) h4;clear hF;rw[a1V.eq_2];exact one
 | 0,_,_,_,_,_,_,_,_,_,_=>by omega
theorem c7M {n k0 k1:Nat}(hk:k0<=k1){n1:Nod}{r6:Typ}{r11:Str}{gs:List Nod}{F:List Nod×Int×Int->Option (Nod×Bool×Int×Int)}(hn:1000000<=n)(hg:gs.length<=60000)(hF:∀{k:Nat} {pl:Int} {ms:List Nod},k1<=k->k<=l.length->szN ms+4*k1<=4*k->ms.length<=12000 ->(∀x∈ms,DF 1 x)->S1 (QN l DD k0) (F (gs++ms,(k:Int),pl))):∀(m k:Nat) (pl:Int) (ms zs:List Nod),k1<=k->k<=l.length->l.length+1<m+k->zs=gs++ms->szN ms+4*k1<=4*k ->(∀x∈ms,DF 1 x)->S1 (QN l DD k0) (bS (a2J n size l n1 r11 r6 m zs (k:Int) pl) F some)
 | m+1,k,pl,ms,_,h1,h2,h3,rfl,h4,h5=>by
  have hl:=C.hl;have hx:=G5 ms;have pn1:=fun{pl:Int} {k:Nat} (h1:k<=l.length) (_:True)=>fun1 C (size:=size) (n:=n) (pl:=pl) h1 hn;have ih:=fun{k:Nat} {pl:Int} {xs zs:List Nod} h1 h2 h3 h4 h5 h6=>c7M hk (n1:=n1) (r6:=r6) (r11:=r11) hn hg hF m k pl xs zs h1 h2 h3 h4 h5 h6;have lp1:=fun{k:Nat} {pl:Int} {ms:List Nod} h1 h2 h3 h4=>hF (k:=k) (pl:=pl) (ms:=ms) h1 h2 h3 (by have:=G5 ms;omega) h4;clear hF;rw[a2J.eq_2];exact one
 | 0,_,_,_,_,_,_,_,_,_,_=>by omega
theorem c8v {n k0 k1:Nat}(hk:k0<=k1){pl:Int}{n1:Nod}{r6:Str}{F:List Nod×Int->Option (Nod×Bool×Int×Int)}(hn:1000000<=n)(hF:∀{k:Nat} {ms:List Nod},k1<=k->k<=l.length->szN ms+4*k1<=4*k->ms.length<=12000 ->(∀x∈ms,DA x)->S1 (QN l DD k0) (F (ms,(k:Int)))):∀(m k:Nat) (ms:List Nod),k1<=k->k<=l.length->l.length+1<m+k->szN ms+4*k1<=4*k ->(∀x∈ms,DA x)->S1 (QN l DD k0) (bS (a2o n size l n1 pl r6 m ms (k:Int)) F some)
 | m+1,k,ms,h1,h2,h3,h4,h5=>by
  have hl:=C.hl;have hx:=G5 ms;have pm1:=fun{pl:Int} {k:Nat} (hk:k<=l.length) (_:True)=>c7B C (size:=size) (n:=n) (pl:=pl) hk (by omega);have ih:=fun{k:Nat} {xs:List Nod} h1 h2 h3 h4 h5=>c8v hk (n1:=n1) (r6:=r6) (pl:=pl) hn hF m k xs h1 h2 h3 h4 h5;have lp1:=fun{k:Nat} {ms:List Nod} h1 h2 h3 h4=>hF (k:=k) (ms:=ms) h1 h2 h3 (by have:=G5 ms;omega) h4;clear hF;have hF:=fun{s a bs}=>@da_i s a bs;rw[a2o.eq_2];exact one
 | 0,_,_,_,_,_,_,_=>by omega
theorem ext_lp {n k0 k1:Nat}(hk:k0<=k1){pl:Int}{n1:Nod}{r6:Typ}{r11:Str}{gs:List Nod}{F:List Nod×Int->Option (Nod×Bool×Int×Int)}(hn:1000000<=n)(hg:gs.length<=30000)(hF:∀{k:Nat} {ms:List Nod},k1<=k->k<=l.length->szN ms+4*k1<=4*k->ms.length<=12000 ->(∀x∈ms,DL x)->S1 (QN l DD k0) (F (gs++ms,(k:Int)))):∀(m k:Nat) (ms zs:List Nod),k1<=k->k<=l.length->l.length+1<m+k->zs=gs++ms->szN ms+4*k1<=4*k ->(∀x∈ms,DL x)->S1 (QN l DD k0) (bS (a2I n size l n1 pl r11 r6 m zs (k:Int)) F some)
 | m+1,k,ms,_,h1,h2,h3,rfl,h4,h5=>by
  have hl:=C.hl;have hx:=G5 ms;have pt1:=fun{pl:Int} {k:Nat} (h1:k<=l.length) (_:True)=>(ht C (size:=size) n).1 (pl:=pl) h1 (by omega);have ih:=fun{k:Nat} {xs zs:List Nod} h1 h2 h3 h4 h5 h6=>ext_lp hk (n1:=n1) (r6:=r6) (r11:=r11) (pl:=pl) hn hg hF m k xs zs h1 h2 h3 h4 h5 h6;have lp1:=fun{k:Nat} {ms:List Nod} h1 h2 h3 h4=>hF (k:=k) (ms:=ms) h1 h2 h3 (by have:=G5 ms;omega) h4;clear hF;have hF:=fun{s a t}=>@dl_i s a t;rw[a2I.eq_2];exact one
 | 0,_,_,_,_,_,_,_,_,_=>by omega
theorem record1 {n k:Nat}{pl op kk a:Int}(ho:OpK op kk)(hk:k<=l.length)(hn:1000000<=n):S1 (QN l DD k) (a1L n ⟨op,[],kk,zT,[],[],a⟩ l size (k:Int) pl):=by
 have hl:=C.hl;have pn1:=fun{pl:Int} {k:Nat} (h1:k<=l.length) (_:True)=>(he C (size:=size) n).f_block (pl:=pl) h1 (by omega);have pm1:=fun{pl:Int} {k:Nat} (h1:k<=l.length) (_:True)=>b4i C (size:=size) (n:=n) (pl:=pl) h1 (by omega);have lp1:=fun{k1:Nat} {pl:Int} {n1:Nod} {r6:Str} {gs:List Nod} {F} (hk:k<=k1) (h1:k1<=l.length) (hg:gs.length<=30000) hF=>rec_lp C (size:=size) (n:=n) (k0:=k) (k1:=k1) (pl:=pl) (n1:=n1) (r6:=r6) (gs:=gs) (F:=F) hk hn hg hF n k1 [] gs (Nat.le_refl _) h1 (by omega) (List.append_nil _).symm (by simp only[Q8];omega) all_nil;have hF:=fun{b:Nod} {a:Int} (h:G 2 b) (_:True)=>DM.deinit (a:=a) h;have lp2:=fun{s:Str} {gs ms:List Nod} {a:Int} (_:True) (h1:s.length<=20000) (h2:∀y∈gs,DG y) (h3:∀y∈ms,DM y)=>DD.recd (a:=a) ho h1 h2 h3;unfold a1L;exact one
theorem enum1 {n k:Nat}{pl op kk a:Int}(ho:OpK op kk)(hk:k<=l.length)(hn:1000000<=n):S1 (QP l DD k) (a3X n ⟨op,[],kk,zT,[],[],a⟩ l size (k:Int) pl):=by
 have hl:=C.hl;have pm1:=fun{pl:Int} {k:Nat} (h1:k<=l.length) (_:True)=>b4i C (size:=size) (n:=n) (pl:=pl) h1 (by omega);have lp1:=fun{k1:Nat} {pl:Int} {n1:Nod} {r6:Str} {gs:List Nod} {F} (hk:k<=k1) (h1:k1<=l.length) (hg:gs.length<=30000) hF=>c7K C (size:=size) (n:=n) (k0:=k) (k1:=k1) (pl:=pl) (n1:=n1) (r6:=r6) (gs:=gs) (F:=F) hk hn hg hF n k1 [] gs (Nat.le_refl _) h1 (by omega) (List.append_nil _).symm (by simp only[Q8];omega) all_nil;have lp2:=fun{s:Str} {gs ms:List Nod} {a:Int} (_:True) (h1:s.length<=20000) (h2:∀y∈gs,DG y) (h3:∀y∈ms,DM y)=>DD.recd (a:=a) ho h1 h2 h3;unfold a3X;exact one
theorem prot1 {n k:Nat}{pl a:Int}(hk:k<=l.length)(hn:1000000<=n):S1 (QN l DD k) (a14 n ⟨5,[],0,zT,[],[],a⟩ l size (k:Int) pl):=by
 have hl:=C.hl;have lp1:=fun{k1:Nat} {pl:Int} {n1:Nod} {r6:Str} {F} (hk:k<=k1) (h1:k1<=l.length) (_:True) hF=>c8v C (size:=size) (n:=n) (k0:=k) (k1:=k1) (pl:=pl) (n1:=n1) (r6:=r6) (F:=F) hk hn hF n k1 [] (Nat.le_refl _) h1 (by omega) (by simp only[Q8];omega) all_nil;have lp2:=fun{k1:Nat} {pl:Int} {n1:Nod} {r6:Str} {gs:List Nod} {F} (hk:k<=k1) (h1:k1<=l.length) (hg:gs.length<=30000) hF=>c44 C (size:=size) (n:=n) (k0:=k) (k1:=k1) (n1:=n1) (r6:=r6) (gs:=gs) (F:=F) hk hn hg hF n k1 pl [] gs (Nat.le_refl _) h1 (by omega) (List.append_nil _).symm (by simp only[Q8];omega) all_nil;have hF:=fun{s:Str} {m n:List Nod} {a:Int} (h1:s.length<=20000) (h2:∀y∈m,DA y) (h3:∀y∈n,DF 0 y)=>DD.prot (a:=a) h1 (all_or h2 h3);unfold a14;exact one
theorem ext1 {n k:Nat}{pl a:Int}(hk:k<=l.length)(hn:1000000<=n):S1 (QN l DD k) (a2Y n ⟨6,[],0,zT,[],[],a⟩ l size (k:Int) pl):=by
 have hl:=C.hl;have pt1:=fun{pl:Int} {k:Nat} (h1:k<=l.length) (_:True)=>(ht C (size:=size) n).1 (pl:=pl) h1 (by omega);have pm1:=fun{pl:Int} {k:Nat} (h1:k<=l.length) (_:True)=>c7r C (size:=size) (n:=n) (pl:=pl) (m0:=[]) (by simp) h1 (by omega);have lp1:=fun{k1:Nat} {pl:Int} {n1:Nod} {r6:Typ} {r11:Str} {gs:List Nod} {F} (hk:k<=k1) (h1:k1<=l.length) (hg:gs.length<=30000) hF=>ext_lp C (size:=size) (n:=n) (k0:=k) (k1:=k1) (pl:=pl) (n1:=n1) (r6:=r6) (r11:=r11) (gs:=gs) (F:=F) hk hn hg hF n k1 [] gs (Nat.le_refl _) h1 (by omega) (List.append_nil _).symm (by simp only[Q8];omega) all_nil;have lp2:=fun{k1:Nat} {pl:Int} {n1:Nod} {r6:Typ} {r11:Str} {gs:List Nod} {F} (hk:k<=k1) (h1:k1<=l.length) (hg:gs.length<=60000) hF=>c7M C (size:=size) (n:=n) (k0:=k) (k1:=k1) (n1:=n1) (r6:=r6) (r11:=r11) (gs:=gs) (F:=F) hk hn hg hF n k1 pl [] gs (Nat.le_refl _) h1 (by omega) (List.append_nil _).symm (by simp only[Q8];omega) all_nil;have hF:=fun{s:Str} {t:Typ} {qs m n:List Nod} {a:Int} (h1:s.length<=20000) (h4:GT t) (h5:∀y∈qs,DQ y) (h2:∀y∈m,DL y) (h3:∀y∈n,DF 1 y)=>DD.ext (a:=a) h1 h4 h5 (all_or h2 h3);unfold a2Y;exact one
theorem decl1 {n k:Nat}{pl:Int}(hk:k<=l.length)(hn:1000000<=n):S1 (QN l DD k) (a04 n l size (k:Int) pl):=by
 have hl:=C.hl;have fin:=FLd;have o20:OpK 2 0:=by unfold OpK;omega
 have o21:OpK 2 1:=by unfold OpK;omega
 have o22:OpK 2 2:=by unfold OpK;omega
 have o23:OpK 2 3:=by unfold OpK;omega
 have o30:OpK 3 0:=by unfold OpK;omega
 have o32:OpK 3 2:=by unfold OpK;omega
 have o40:OpK 4 0:=by unfold OpK;omega
 have pn1:=fun{pl op kk a:Int} {k:Nat} (h1:k<=l.length) ho=>record1 C (size:=size) (n:=n) (pl:=pl) (op:=op) (kk:=kk) (a:=a) ho h1 hn;have pp1:=fun{pl op kk a:Int} {k:Nat} (h1:k<=l.length) ho=>enum1 C (size:=size) (n:=n) (pl:=pl) (op:=op) (kk:=kk) (a:=a) ho h1 hn;have pn2:=fun{pl a:Int} {k:Nat} (h1:k<=l.length) (_:True)=>prot1 C (size:=size) (n:=n) (pl:=pl) (a:=a) h1 hn;have pn3:=fun{pl a:Int} {k:Nat} (h1:k<=l.length) (_:True)=>ext1 C (size:=size) (n:=n) (pl:=pl) (a:=a) h1 hn;have pn4:=fun{pl:Int} {k:Nat} (h1:k<=l.length) (_:True)=>qn_w C (fun1 C (size:=size) (n:=n) (pl:=pl) h1 hn) fun x h=>DD.func h;unfold a04;exact one
end
end Go.Proofs.YtmippldlhnajkaaGreatDoor
namespace Go.Proofs.YtmippldlhnajkaaGreatDoor.Sc
open Go Go.Vm
theorem tok_txt {s:List UInt8}{l:List Tok}(h:a7X s=.done l):∀t∈l,t.t.length<=8000:=by
 obtain⟨h1,_,_,h2⟩:=b38 s;have h3:=(h1.lay l h).1;obtain⟨y,g1,g2,_⟩:=h2 h3;rw[h]at g2;rw[<-(b2w g2).1];exact fun t ht=>Nat.le_trans (c9z g1 (fun t ht=>by cases ht) t ht) h3
end Go.Proofs.YtmippldlhnajkaaGreatDoor.Sc
namespace Go.Proofs.YtmippldlhnajkaaGreatDoor
open Go Go.Vm Pr
theorem idxS_ok {s:Str}{i:Nat}(h:i<s.length):idxS s (i:Int)=some ((s[i]).toNat:Int):=by
 have h1:inR (i:Int) s.length=true:=by simp[inR,h]
 simp[idxS,h1,h]
theorem wrap8 {a:Int}(h1:0<=a)(h2:a<=255):IntKind.wrap .u8 a=a:=by
 simp only[IntKind.wrap,IntKind.bits,IntKind.signed];simp;omega
theorem c4C {n:Nat}{s:Str}(hb:b7I s=true)(hm:a90 s 0<=9223372036854775807)(hlen:s.length<=100):∀(m i acc:Nat),i<=s.length->s.length-i<m->a90 (s.drop i) acc=a90 s 0->a3G n s m (acc:Int) (i:Int)=some ((a90 s 0:Nat):Int)
 | 0,i,acc,h1,h2,h3=>by omega
 | m+1,i,acc,h1,h2,h3=>by
  simp only[a3G];rcases Nat.lt_or_ge i s.length with h|h
  ·rw[List.drop_eq_getElem_cons h,a9g]at h3;have hd:48 <=(s[i]).toNat/\(s[i]).toNat<=57:=by
    simp only[b7I,List.all_eq_true,Bool.and_eq_true,Nat.ble_eq]at hb;exact hb _ (List.getElem_mem h)
   have hg:=c7J (s.drop (i+1)) (acc*10+((s[i]).toNat-48));rw[R4 (by omega),cond_true,idxS_ok h,Option.bind_some,a4j (a:=(acc:Int)*10) (by omega) (by omega),wrap8 (by omega) (by omega),a4j (a:=((s[i]).toNat:Int)-48) (by omega) (by omega),a4j (a:=(acc:Int)*10+_) (by omega) (by omega),L6 (by omega)];rw[show(acc:Int)*10+(((s[i]).toNat:Int)-48) =((acc*10+((s[i]).toNat-48):Nat):Int)from by omega];exact c4C hb hm hlen m (i+1) _ h (by omega) h3
  ·rw[O8 (by omega),cond_false];rw[List.drop_eq_nil_of_le h]at h3;have h3:acc=a90 s 0:=h3;rw[h3]
theorem num_ok {n:Nat}{s:Str}(h:digB s=true)(hn:100<=n):a1b n s=some ((a90 s 0:Nat):Int):=by
 simp only[digB,Bool.and_eq_true,Nat.ble_eq]at h;obtain⟨h1,h2,h3,h4⟩:=h;unfold a1b;have:=c4C (n:=n) h1 h4 (by omega) n 0 0 (Nat.zero_le _) (by omega) rfl;have this:a3G n s n 0 0=some ((a90 s 0:Nat):Int):=this;rw[this];rfl
theorem digV_max {s:Str}(h:digB s=true):a90 s 0<=9223372036854775807:=by
 simp only[digB,Bool.and_eq_true,Nat.ble_eq]at h;exact h.2.2.2
theorem cx_ok (s:Str):Cx (b37 (Sc.a7X s)):=by
 refine⟨tokL_len s,fun k=>?_,fun k hk=>?_⟩
 ·unfold b1O;cases h:(b37 (Sc.a7X s))[k]? with
  | none=>exact Nat.zero_le _
  | some t =>
   show t.text.length<=20000;cases hr:Sc.a7X s with
   | done l =>
    rw[hr]at h;simp only[b37,List.getElem?_map]at h;cases hq:l[k]? with
    | none=>rw[hq]at h;cases h
    | some u =>
     rw[hq]at h;cases h;have:=Sc.tok_txt hr u (List.mem_of_getElem? hq);show u.t.length<=20000;omega
   | _=>rw[hr]at h;simp[b37]at h
 ·unfold isK at hk;unfold b1O;cases h:(b37 (Sc.a7X s))[k]? with
  | none=>rw[h]at hk;cases hk
  | some t =>
   rw[h]at hk;have hk:t.kind=3:=by simpa [eqB]using hk
   cases hr:Sc.a7X s with
   | done l =>
    rw[hr]at h;simp only[b37,List.getElem?_map]at h;cases hq:l[k]? with
    | none=>rw[hq]at h;cases h
    | some u =>
     rw[hq]at h;cases h;have hb:=Sc.int_digB (Sc.tok_int hr u (List.mem_of_getElem? hq) hk);have hm:=digV_max hb;exact⟨(a90 u.t 0:Nat),by omega,by omega,fun n hn=>num_ok hb (by omega)⟩
   | _=>rw[hr]at h;simp[b37]at h
end Go.Proofs.YtmippldlhnajkaaGreatDoor
namespace Go.Proofs.YtmippldlhnajkaaGreatDoor
open Go Go.Vm Pr
theorem b8y {α:Type}{b:Bool}{p q:Option α}(h1:∃r,p=some r)(h2:∃r,q=some r):∃r,cond b p q=some r:=by
 cases b
 ·exact h2
 ·exact h1
theorem c0B (t:Tok):∃r,a6O t=some r:=by
 unfold a6O;repeat' first|exact⟨_,rfl⟩|refine b8y ?_ ?_
theorem c5Z (t:Tok):∃r,a7p t=some r:=by
 unfold a7p;refine b8y ⟨_,rfl⟩ ?_;have:∀{p:Option Bool},(∃r,p=some r) -> ∃r,(Option.bind (α:=Bool) p fun a2m=>cond a2m (some true) (some false))=some r:=fun⟨r,e⟩=>by
  rw[e];cases r<;>exact⟨_,rfl⟩
 refine this ?_;repeat' first|exact⟨_,rfl⟩|refine b8y ?_ ?_
theorem c8G {n:Nat}{x:Nod}{Φ:Q5}(hL:x.l.length<=1000000)(H:∀y∈x.l,∃r,Φ.a1d y=some r):∀(m i:Nat) (a b:Int),x.l.length<m+i->i<=x.l.length -> ∃r,a8e n Φ x m a b (i:Int)=some r
 | 0,i,a,b,h1,h2=>by omega
 | m+1,i,a,b,h1,h2=>by
  rw[a8e.eq_2];rcases Nat.lt_or_ge i x.l.length with h|h
  ·obtain⟨⟨r1,r2⟩,e⟩:=H _ (List.getElem_mem h);rw[R4 (by omega),O3 h];simp only[NF,e,L6 (show i<=1000000000000 by omega)];exact c8G hL H m (i+1) _ _ (by omega) (by omega)
  ·rw[O8 (by omega)];exact⟨_,rfl⟩
theorem b90:∀(n:Nat) (x:Nod),x.sz<=1000000->x.sz<n -> ∃r,(Q5.fs n).a1d x=some r
 | 0,x,h1,h2=>by omega
 | n+1,x,h1,h2=>by
  have hz:=x.S9;have hl:=G5 x.l;obtain⟨r,e⟩:=c8G (n:=n) (x:=x) (Φ:=Q5.fs n) (by omega) (fun y hy=>b90 n y (by have:=I5 hy;omega) (by have:=I5 hy;omega)) n 0 1 0 (by omega) (Nat.zero_le _);show ∃r,a7o n (Q5.fs n) x=some r;unfold a7o;simp only[Int.natCast_zero]at e;rw[e];exact⟨_,rfl⟩
section
variable {l:List Tok} (hl:l.length<=3000)
include hl
theorem l6_tot {n:Nat}:∀(m i k:Nat) (o:Int),i<=k->k<=l.length->k<m+i -> ∃o',a4Q n l m (k:Int) o (i:Int)=some ((k:Int),o')
 | 0,i,k,o,h1,h2,h3=>by omega
 | m+1,i,k,o,h1,h2,h3=>by
  rw[a4Q.eq_2];rcases Nat.lt_or_ge i k with h|h
  ·obtain⟨r,e⟩:=c0B (l[i]'(by omega));rw[R4 (by omega),R4 (by omega),O3 (show i<l.length by omega)];simp only[NF,e,L6 (show i<=1000000000000 by omega)];exact l6_tot m (i+1) k _ (by omega) h2 (by omega)
  ·rw[O8 (by omega)];exact⟨_,rfl⟩
theorem l9_tot {n:Nat}:∀(m k:Nat) (o:Int),k<=l.length->l.length<m+k -> ∃q:Nat,a3w n l m (k:Int) o=some (q:Int)/\k<=q/\q<=l.length
 | 0,k,o,h1,h2=>by omega
 | m+1,k,o,h1,h2=>by
  rw[a3w.eq_2];rcases Nat.lt_or_ge k l.length with h|h
  ·obtain⟨b,e1⟩:=c5Z l[k];obtain⟨r,e⟩:=c0B l[k];rw[R4 (by omega),O3 h];simp only[NF,e,e1,L6 (show k<=1000000000000 by omega)];have go:∃q:Nat,a3w n l m ((k+1:Nat):Int) (w64 (o+r))=some (q:Int)/\k<=q/\q<=l.length:=by
    obtain⟨q,e2,e3,e4⟩:=l9_tot m (k+1) (w64 (o+r)) (by omega) (by omega);exact⟨q,e2,by omega,e4⟩
   cases b
   ·exact go
   ·cases leB o 0
    ·exact go
    ·exact⟨k,rfl,Nat.le_refl _,h1⟩
  ·rw[O8 (by omega)];exact⟨k,rfl,Nat.le_refl _,h1⟩
theorem rec_tot {n k q:Nat}(hn:10000<=n)(hk:k<l.length)(h1:k<=q)(h2:q<=l.length):∃r:Nat,a5a n l (k:Int) (q:Int)=some (r:Int)/\k<r/\r<=l.length:=by
 obtain⟨c,hc,c1,c2⟩:∃c:Nat,cond (eqB (q:Int) (k:Int)) (some (w64 ((k:Int)+1))) (some (q:Int))=some (c:Int)/\k<c/\c<=l.length:=by
  rcases Nat.lt_or_ge k q with h|h
  ·rw[a0i (by omega)];exact⟨q,rfl,h,h2⟩
  ·rw[a1s (by omega),L6 (by omega)];exact⟨k+1,rfl,by omega,by omega⟩
 obtain⟨o,e1⟩:=l6_tot hl (n:=n) n k c 0 (by omega) c2 (by omega);obtain⟨r,e2,e3,e4⟩:=l9_tot hl (n:=n) n c o c2 (by omega);unfold a5a;rw[hc];simp only[NF,e1,e2];exact⟨r,by rw[Int.min_eq_left (by omega)],by omega,e4⟩
end
theorem b6J {l:List Tok}(C:Cx l){src:Str}{n:Nat}(hn:1000000<=n):∀(m k:Nat) (nodes:Int) (fs:List Flt) (pl:Int) (ds:List Nod),k<=l.length->l.length<m+k->szN ds<=4*k ->(∀d∈ds,DD d) -> ∃fs' ds',a2K n l src m nodes fs (k:Int) pl ds=some (fs',ds')/\szN ds'<=12000 /\ ∀d∈ds',DD d
 | 0,k,nodes,fs,pl,ds,h1,h2,h3,h4=>by omega
 | m+1,k,nodes,fs,pl,ds,h1,h2,h3,h4=>by
  have hl:=C.hl;have hd:=G5 ds;rw[a2K.eq_2];rcases Nat.lt_or_ge k l.length with h|h
  ·rw[R4 (by omega),cond_true];rcases Nat.lt_or_ge fs.length 20 with hf|hf
   ·rw[R4 (by omega)];have A:∀f:Flt,app 16 fs [f]=some (fs++[f]):=fun f=>c3C (by omega) (by simp) (by omega);obtain⟨⟨x,b,q',pl'⟩,e,q,rfl,g1,g2,g3⟩:=decl1 C (size:=(List.length src:Int)) (n:=n) (pl:=pl) h1 hn;simp only[NF,e];cases b with
    | false =>
     simp only[NF];obtain⟨r,e2,r1,r2⟩:=rec_tot hl (n:=n) (by omega) h g1 g2;cases leB 0 pl' with
     | true =>
      simp only[NF,A,e2];exact b6J C hn m r _ _ _ _ r2 (by omega) (by omega) h4
     | false =>
      simp only[NF,A,e2,b6L hl g2];exact b6J C hn m r _ _ _ _ r2 (by omega) (by omega) h4
    | true =>
     obtain⟨g3,g4⟩:=g3 rfl;have g4:x.sz+4*k<=4*q:=g4;have:=x.S9;obtain⟨⟨r1,r2⟩,e2⟩:=b90 n x (by omega) (by omega);have e2:a1d n x=some (r1,r2):=e2;simp only[NF,e2,O3 h,A,c3C (show ds.length<=100000 by omega) (show [x].length<=100000 by simp) (show 144<=1000 by omega)];cases ltB 40 (w64 (r2+1))with
     | true=>exact b6J C hn m q _ _ _ _ g2 (by omega) (by omega) h4
     | false =>
      cases ltB 4000 (w64 (nodes+r1))with
      | true=>exact b6J C hn m q _ _ _ _ g2 (by omega) (by omega) h4
      | false=>exact b6J C hn m q _ _ _ _ g2 (by omega) (by rw[b2y,K6,Q8];omega) (b5F h4 (a8P g3))
   ·rw[O8 (by omega)];exact⟨_,_,rfl,by omega,h4⟩
  ·rw[O8 (by omega)];exact⟨_,_,rfl,by omega,h4⟩
theorem mod_tot (s:Str){n:Nat}(hn:1000000<=n):∃x fs,a5S n s=some (x,fs)/\(fs.length=0 -> ∃ds,x =⟨1,[],0,zT,[],ds,0⟩/\szN ds<=12000 /\ ∀d∈ds,DD d)/\x.sz<=12002:=by
 have C:=cx_ok s;have hl:=C.hl;unfold a5S b6e;simp only[NF];generalize hL:b37 (Sc.a7X s)=l at *;generalize tokC (Sc.a7X s)=c;rcases Classical.em (c=0)with hc|hc
 ·rw[a1s hc];obtain⟨fs,ds,e,h1,h2⟩:=b6J C (src:=s) (n:=n) hn n 0 1 [] (-1) [] (Nat.zero_le _) (by omega) (Nat.le_refl _) all_nil;rw[Int.natCast_zero]at e;simp only[NF,e];exact⟨_,_,rfl,fun _=>⟨ds,rfl,h1,h2⟩,by simp only[SZ];omega⟩
 ·rw[a0i hc];exact⟨_,_,rfl,fun h=>by simp at h,by simp only[SZ,a5V,Q8];omega⟩
end Go.Proofs.YtmippldlhnajkaaGreatDoor
namespace Go.Proofs.YtmippldlhnajkaaGreatDoor
open Go Go.Vm Pr
mutual
def Typ.fits:Typ->Prop
 |⟨_,s,_,a⟩=>s.length<=140737488355328/\a.length<=140737488355328/\b8O a
def b8O:List Typ->Prop
 | []=>True
 | x::r=>x.fits/\b8O r
end
mutual
def Nod.fits:Nod->Prop
 |⟨_,s,n,t,ts,l,_⟩=>s.length<=140737488355328/\(-9223372036854775808<=n/\n<=9223372036854775807)/\ts.length<=140737488355328/\l.length<=140737488355328/\t.fits/\b8O ts/\c3Z l
def c3Z:List Nod->Prop
 | []=>True
 | x::r=>x.fits/\c3Z r
end
theorem Typ.b3u (x:Typ):x.fits↔x.name.length<=140737488355328/\x.args.length<=140737488355328/\b8O x.args:=by cases x;exact .rfl
theorem Nod.b3u (x:Nod):x.fits↔x.s.length<=140737488355328/\(-9223372036854775808<=x.n/\x.n<=9223372036854775807)/\x.ts.length<=140737488355328/\x.l.length<=140737488355328/\x.t.fits/\b8O x.ts/\c3Z x.l:=by cases x;exact .rfl
theorem b04 {x:Typ}:∀{l:List Typ},b8O l->x∈l->x.fits
 | y::r,hf,h=>by
  rcases List.mem_cons.1 h with rfl|h
  ·exact hf.1
  ·exact b04 hf.2 h
theorem b6B {x:Nod}:∀{l:List Nod},c3Z l->x∈l->x.fits
 | y::r,hf,h=>by
  rcases List.mem_cons.1 h with rfl|h
  ·exact hf.1
  ·exact b6B hf.2 h
def cl {α:Type}(f:α->Int->Option Int)(go:Int->Bool)(l:List α):Nat->Int->Int->Option Int|0,_,_=>none|m+1,k,i=>Option.bind (α:=Bool) (cond (ltB i (List.length l:Int)) (some (go k)) (some false)) fun b=>cond b ((idx' l i).bind fun x=>(f x k).bind fun r=>cl f go l m (w64 (k+r)) (w64 (i+1))) (some k)
theorem b8w {α:Type}{f:α->Int->Option Int}{go:Int->Bool}{l:List α}{B U:Int}{P:α->Int->Prop}(hB:B<=1000000/\U<=2000000000000000)(hgo:∀k,go k=true↔k<B)(hL:l.length<=140737488355328)
  (hf:∀x∈l,∀k,0<=k->k<B -> ∃r,f x k=some r/\0<=r/\k+r<=U/\(k+r<B->P x r)):∀(m i:Nat) (k:Int),l.length<m+i->i<=l.length->0<=k->k<=U ->
  ∃r,cl f go l m k (i:Int)=some r/\k<=r/\r<=U/\(r<B -> ∃rs:List Int,rs.length =(l.drop i).length/\r=k+rs.sum /\ ∀(j:Nat) x v,(l.drop i)[j]? = some x->rs[j]? = some v->P x v)
 | 0,i,k,h1,h2,h3,h4=>by omega
 | m+1,i,k,h1,h2,h3,h4=>by
  simp only[cl];rcases Nat.lt_or_ge i l.length with h|h
  ·rw[R4 (by omega)];simp only[cond_true,Option.bind_some];by_cases hk:k<B
   ·rw[(hgo k).2 hk];obtain⟨v,e,e1,e2,e3⟩:=hf _ (List.getElem_mem h) k h3 hk;simp only[cond_true,O3 h,Option.bind_some,e];rw[a4j (a:=k+v) (by omega) (by omega),show w64 ((i:Int)+1) =((i+1:Nat):Int)from by rw[a4j (by omega) (by omega)];rfl];obtain⟨r,g1,g2,g3,g4⟩:=b8w hB hgo hL hf m (i+1) (k+v) (by omega) (by omega) (by omega) (by omega);refine⟨r,g1,by omega,g3,fun hr=>?_⟩;obtain⟨rs,q1,q2,q3⟩:=g4 hr;rw[drop_eq h];refine⟨v::rs,by rw[List.length_cons,List.length_cons,q1],by rw[List.sum_cons,q2];omega,fun j x u hx hu=>?_⟩;cases j with
    | zero =>
     simp only[List.getElem?_cons_zero,Option.some.injEq]at hx hu;subst hx hu;exact e3 (by omega)
    | succ j =>
     simp only[List.getElem?_cons_succ]at hx hu;exact q3 j x u hx hu
   ·have:go k=false:=by
     cases hg:go k with
     | false=>rfl
     | true=>exact absurd ((hgo k).1 hg) hk
    rw[this];exact⟨k,rfl,Int.le_refl _,h4,fun hr=>absurd hr hk⟩
  ·rw[O8 (by omega)];refine⟨k,rfl,Int.le_refl _,h4,fun hr=>⟨[],?_,by simp,fun j x v hx hv=>by simp at hv⟩⟩;rw[List.drop_of_length_le h];rfl
theorem c3c {α:Type}{c:α->Nat}{s:List α->Nat}{q:Int}(hs0:s []=0)(hs:∀x r,s (x::r)=c x+s r):∀(l:List α) (rs:List Int),rs.length=l.length ->(∀(j:Nat) x v,l[j]? = some x->rs[j]? = some v ->(c x:Int)<=q*v) ->(s l:Int)<=q*rs.sum
 | [],rs,h1,h2=>by
  have:rs=[]:=List.eq_nil_of_length_eq_zero h1;subst this;rw[hs0];simp
 | x::r,[],h1,h2=>by simp at h1
 | x::r,v::rs,h1,h2=>by
  have g1:=h2 0 x v rfl rfl;have g2:=c3c hs0 hs r rs (by simpa using h1) (fun j y u hy hu=>h2 (j+1) y u (by simpa using hy) (by simpa using hu));rw[hs,List.sum_cons,Int.mul_add];omega
theorem c5T {α:Type}{P:α->Prop}{l:List α}{rs:List Int}(h1:rs.length=l.length)(h2:∀(j:Nat) x v,l[j]? = some x->rs[j]? = some v->P x):∀x∈l,P x:=fun x hx=>by
 obtain⟨j,hj,rfl⟩:=List.mem_iff_getElem.1 hx;exact h2 j _ (rs[j]'(by omega)) (List.getElem?_eq_getElem hj) (List.getElem?_eq_getElem (by omega))
theorem c5Y:∀{l:List Typ},(∀x∈l,x.bd)->bdT l
 | [],_=>trivial
 | x::r,h=>⟨h x (by simp),c5Y fun y hy=>h y (by simp[hy])⟩
theorem bdN_of:∀{l:List Nod},(∀x∈l,x.bd)->bdN l
 | [],_=>trivial
 | x::r,h=>⟨h x (by simp),bdN_of fun y hy=>h y (by simp[hy])⟩
theorem le_go {q:Int}(k:Int):leB k q=true↔k<q+1:=by rw[leB_d,decide_eq_true_iff];omega
theorem lt_go {q:Int}(k:Int):ltB k q=true↔k<q:=by rw[c09,decide_eq_true_iff]
theorem tn_eq (n:Nat)(Φ:J8)(q:Int)(t:Typ):∀m k i,a4O n Φ q t m k i=cl (fun x _=>Φ.O9 x q) (fun k=>leB k q) t.args m k i
 | 0,k,i=>rfl
 | m+1,k,i=>by simp only[a4O,cl,tn_eq n Φ q t m]
theorem n3_eq (n:Nat)(Φ:M6)(q:Int)(t:Nod):∀m k i,a7l n Φ q t m k i=cl (fun x _=>O9 n x q) (fun k=>leB k q) t.ts m k i
 | 0,k,i=>rfl
 | m+1,k,i=>by simp only[a7l,cl,n3_eq n Φ q t m]
theorem n9_eq (n:Nat)(Φ:M6)(q:Int)(t:Nod):∀m k i,a7m n Φ q t m k i=cl (fun x _=>Φ.a1h x q) (fun k=>leB k q) t.l m k i
 | 0,k,i=>rfl
 | m+1,k,i=>by simp only[a7m,cl,n9_eq n Φ q t m]
theorem b5_eq (n:Nat)(Φ:Q6)(q:Int)(t:Typ):∀m k i,a6m n Φ q t m k i=cl (fun x k=>Φ.a0P x (w64 (q-k))) (fun k=>ltB k q) t.args m k i
 | 0,k,i=>rfl
 | m+1,k,i=>by simp only[a6m,cl,b5_eq n Φ q t m]
theorem b3_eq (n:Nat)(Φ:P5)(q:Int)(t:Nod):∀m k i,a8c n Φ q t m k i=cl (fun x k=>a0P n x (w64 (q-k))) (fun k=>ltB k q) t.ts m k i
 | 0,k,i=>rfl
 | m+1,k,i=>by simp only[a8c,cl,b3_eq n Φ q t m]
theorem b7_eq (n:Nat)(Φ:P5)(q:Int)(t:Nod):∀m k i,a8d n Φ q t m k i=cl (fun x k=>Φ.a1x x (w64 (q-k))) (fun k=>ltB k q) t.l m k i
 | 0,k,i=>rfl
 | m+1,k,i=>by simp only[a8d,cl,b7_eq n Φ q t m]
theorem tn_ok {q:Int}(hq:0<=q/\q<=900000):∀(k:Nat) (t:Typ) (n:Nat),t.sz<=k->t.fits->t.sz+1<=n -> ∃r,O9 n t q=some r/\1<=r/\r<=q+1/\(r<=q ->(t.sz:Int)<=r)
 | 0,t,n,h1,h2,h3=>by have:=t.S9;omega
 | k'+1,t,0,h1,h2,h3=>by omega
 | k'+1,t,n+1,h1,h2,h3=>by
  have hs:=t.S9;obtain⟨f1,f2,f3⟩:=t.b3u.1 h2;have hl:=a4t t.args;show ∃r,a3U n (J8.fs n) t q=some r/\_;unfold a3U;obtain⟨r,g1,g2,g3,g4⟩:=b8w (f:=fun x _=>(J8.fs n).O9 x q) (go:=fun k=>leB k q) (l:=t.args) (B:=q+1) (U:=2*q+2) (P:=fun x r=>(x.sz:Int)<=r) ⟨by omega,by omega⟩ le_go f2 (fun x hx k k0 k1=>by
   have:=a4f hx;obtain⟨r,e,e1,e2,e3⟩:=tn_ok hq k' x n (by omega) (b04 f3 hx) (by omega);exact⟨r,e,by omega,by omega,fun h=>e3 (by omega)⟩) n 0 1 (by omega) (Nat.zero_le _) (by omega) (by omega)
  rw[Int.natCast_zero]at g1;rw[tn_eq,g1,Option.bind_some,a4j (by omega) (by omega)];refine⟨_,rfl,by omega,by omega,fun h=>?_⟩;obtain⟨rs,q1,q2,q3⟩:=g4 (by omega);rw[List.drop_zero]at q1 q3;have:=c3c (q:=1) a5V a2b t.args rs q1 (fun j x v hx hv=>by have:=q3 j x v hx hv;omega);omega
theorem nd_ok {q:Int}(hq:0<=q/\q<=900000):∀(k:Nat) (x:Nod) (n:Nat),x.sz<=k->x.fits->x.sz+1<=n -> ∃r,a1h n x q=some r/\1<=r/\r<=q+1/\(r<=q ->(x.sz:Int)<=2*r)
 | 0,x,n,h1,h2,h3=>by have:=x.S9;omega
 | k'+1,x,0,h1,h2,h3=>by omega
 | k'+1,x,n+1,h1,h2,h3=>by
  have hs:=x.S9;obtain⟨f1,f0,f2,f3,f4,f5,f6⟩:=x.b3u.1 h2;have hl:=G5 x.l;have hlt:=a4t x.ts;show ∃r,a6l n (M6.fs n) x q=some r/\_;unfold a6l;have e16:(!eqB (16:Int) 0)=true:=by rw[a0i (by decide)];rfl
  have hd:Int.tdiv (List.length x.s:Int) 16 =((x.s.length/16:Nat):Int):=rfl;have hdb:x.s.length/16<=10000000000000:=by omega
  simp only[e16,gdO];rw[hd,a4j (a:=((x.s.length/16:Nat):Int)) (by omega) (by omega),a4j (a:=1+((x.s.length/16:Nat):Int)) (by omega) (by omega)];obtain⟨r1,g1,g2,g3,g4⟩:=b8w (f:=fun x _=>O9 n x q) (go:=fun k=>leB k q) (l:=x.ts) (B:=q+1) (U:=10000001000000) (P:=fun x r=>(x.sz:Int)<=r) ⟨by omega,by omega⟩ le_go f2 (fun y hy k k0 k1=>by
   have:=a4f hy;obtain⟨r,e,e1,e2,e3⟩:=tn_ok hq y.sz y n (Nat.le_refl _) (b04 f5 hy) (by omega);exact⟨r,e,by omega,by omega,fun h=>e3 (by omega)⟩) n 0 (1+((x.s.length/16:Nat):Int)) (by omega) (Nat.zero_le _) (by omega) (by omega)
  rw[Int.natCast_zero]at g1;rw[n3_eq,g1,Option.bind_some];obtain⟨c,hc,c1,c2,c3⟩:∃c,cond (leB r1 q) ((O9 n x.t q).bind fun r5=>some (w64 ((w64 (r1+r5))-1))) (some r1)=some c/\r1<=c/\c<=20000002000000/\(c<=q ->((r1:Int)+x.t.sz)<=c+1):=by
   by_cases h:r1<=q
   ·obtain⟨v,e,e1,e2,e3⟩:=tn_ok hq x.t.sz x.t n (Nat.le_refl _) f4 (by omega);rw[leB_t h,cond_true,e,Option.bind_some,a4j (a:=r1+v) (by omega) (by omega),a4j (by omega) (by omega)];exact⟨_,rfl,by omega,by omega,fun h=>by have:=e3 (by omega);omega⟩
   ·rw[leB_f h,cond_false];exact⟨_,rfl,by omega,by omega,fun h=>by omega⟩
  rw[hc,Option.bind_some];obtain⟨r,p1,p2,p3,p4⟩:=b8w (f:=fun x _=>(M6.fs n).a1h x q) (go:=fun k=>leB k q) (l:=x.l) (B:=q+1) (U:=20000002000000) (P:=fun x r=>(x.sz:Int)<=2*r) ⟨by omega,by omega⟩ le_go f3 (fun y hy k k0 k1=>by
   have:=I5 hy;obtain⟨r,e,e1,e2,e3⟩:=nd_ok hq k' y n (by omega) (b6B f6 hy) (by omega);exact⟨r,e,by omega,by omega,fun h=>e3 (by omega)⟩) n 0 c (by omega) (Nat.zero_le _) (by omega) (by omega)
  rw[Int.natCast_zero]at p1;rw[n9_eq,p1,Option.bind_some,a4j (by omega) (by omega)];refine⟨_,rfl,by omega,by omega,fun h=>?_⟩;obtain⟨rs,q1,q2,q3⟩:=g4 (by omega);obtain⟨us,u1,u2,u3⟩:=p4 (by omega);rw[List.drop_zero]at q1 q3 u1 u3;have a1:=c3c (q:=1) a5V a2b x.ts rs q1 (fun j x v hx hv=>by have:=q3 j x v hx hv;omega);have a2:=c3c (q:=2) Q8 K6 x.l us u1 u3;have a3:=c3 (by omega);have:=x.t.S9;omega
theorem bk_ok:∀(k:Nat) (t:Typ) (n:Nat) (q:Int),t.sz<=k->t.fits->t.sz+1<=n->1<=q->q<=20001 -> ∃r,a0P n t q=some r/\0<=r/\r<=q+140737488355329/\(r<q->t.bd)
 | 0,t,n,q,h1,h2,h3,h4,h5=>by have:=t.S9;omega
 | k'+1,t,0,q,h1,h2,h3,h4,h5=>by omega
 | k'+1,t,n+1,q,h1,h2,h3,h4,h5=>by
  have hs:=t.S9;obtain⟨f1,f2,f3⟩:=t.b3u.1 h2;have hl:=a4t t.args;show ∃r,a7q n (Q6.fs n) t q=some r/\_;unfold a7q;have key:∀c:Int,(t.name.length:Int)<=c->c<=140737488355329 -> ∃r,Option.bind (a6m n (Q6.fs n) q t n c 0) (fun k513=>some k513)=some r/\0<=r/\r<=q+140737488355329/\(r<q->t.bd):=fun c c1 c2=>by
   obtain⟨r,g1,g2,g3,g4⟩:=b8w (f:=fun x k=>(Q6.fs n).a0P x (w64 (q-k))) (go:=fun k=>ltB k q) (l:=t.args) (B:=q) (U:=q+140737488355329) (P:=fun x _=>x.bd) ⟨by omega,by omega⟩ lt_go f2 (fun x hx k k0 k1=>by
    have:=a4f hx;obtain⟨r,e,e1,e2,e3⟩:=bk_ok k' x n (q-k) (by omega) (b04 f3 hx) (by omega) (by omega) (by omega);exact⟨r,by rw[a4j (by omega) (by omega)];exact e,by omega,by omega,fun h=>e3 (by omega)⟩) n 0 c (by omega) (Nat.zero_le _) (by omega) (by omega)
   rw[Int.natCast_zero]at g1;rw[b5_eq,g1,Option.bind_some];refine⟨_,rfl,by omega,by omega,fun h=>?_⟩;obtain⟨rs,q1,q2,q3⟩:=g4 h;rw[List.drop_zero]at q1 q3;exact t.a4w.2 ⟨by omega,c5Y (c5T q1 fun j x v hx hv=>q3 j x v hx hv)⟩
  have e:w64 ((t.name.length:Int)+1) =(t.name.length:Int)+1:=a4j (by omega) (by omega);cases(!eqB t.kind 0)<;>simp only[cond_true,cond_false,Option.bind_some,e]
  ·cases ltB 0 (List.length t.args:Int)<;>simp only[cond_true,cond_false,Option.bind_some]<;>exact key _ (by omega) (by omega)
  ·exact key _ (by omega) (by omega)
theorem Bk_ok:∀(k:Nat) (x:Nod) (n:Nat) (q:Int),x.sz<=k->x.fits->x.sz+1<=n->1<=q->q<=20001 -> ∃r,a1x n x q=some r/\0<=r/\r<=q+281474976710700/\(r<q->x.bd)
 | 0,x,n,q,h1,h2,h3,h4,h5=>by have:=x.S9;omega
 | k'+1,x,0,q,h1,h2,h3,h4,h5=>by omega
 | k'+1,x,n+1,q,h1,h2,h3,h4,h5=>by
  have hs:=x.S9;obtain⟨f1,f0,f2,f3,f4,f5,f6⟩:=x.b3u.1 h2;have hl:=G5 x.l;have hlt:=a4t x.ts;show ∃r,a7n n (P5.fs n) x q=some r/\_;unfold a7n;obtain⟨v,e,e1,e2,e3⟩:=bk_ok x.t.sz x.t n q (Nat.le_refl _) f4 (by omega) h4 h5;rw[e,Option.bind_some,a4j (by omega) (by omega)];obtain⟨r1,g1,g2,g3,g4⟩:=b8w (f:=fun x k=>a0P n x (w64 (q-k))) (go:=fun k=>ltB k q) (l:=x.ts) (B:=q) (U:=q+281474976710700) (P:=fun x _=>x.bd) ⟨by omega,by omega⟩ lt_go f2 (fun y hy k k0 k1=>by
   have:=a4f hy;obtain⟨r,e,e1,e2,e3⟩:=bk_ok y.sz y n (q-k) (Nat.le_refl _) (b04 f5 hy) (by omega) (by omega) (by omega);exact⟨r,by rw[a4j (by omega) (by omega)];exact e,by omega,by omega,fun h=>e3 (by omega)⟩) n 0 ((x.s.length:Int)+v) (by omega) (Nat.zero_le _) (by omega) (by omega)
  rw[Int.natCast_zero]at g1;rw[b3_eq,g1,Option.bind_some];obtain⟨r,p1,p2,p3,p4⟩:=b8w (f:=fun x k=>(P5.fs n).a1x x (w64 (q-k))) (go:=fun k=>ltB k q) (l:=x.l) (B:=q) (U:=q+281474976710700) (P:=fun x _=>x.bd) ⟨by omega,by omega⟩ lt_go f3 (fun y hy k k0 k1=>by
   have:=I5 hy;obtain⟨r,e,e1,e2,e3⟩:=Bk_ok k' y n (q-k) (by omega) (b6B f6 hy) (by omega) (by omega) (by omega);exact⟨r,by rw[a4j (by omega) (by omega)];exact e,by omega,by omega,fun h=>e3 (by omega)⟩) n 0 r1 (by omega) (Nat.zero_le _) (by omega) (by omega)
  rw[Int.natCast_zero]at p1;rw[b7_eq,p1,Option.bind_some];refine⟨_,rfl,by omega,by omega,fun h=>?_⟩;obtain⟨rs,q1,q2,q3⟩:=g4 (by omega);obtain⟨us,u1,u2,u3⟩:=p4 h;rw[List.drop_zero]at q1 q3 u1 u3;exact x.a4w.2 ⟨by omega,f0,e3 (by omega),c5Y (c5T q1 fun j x v hx hv=>q3 j x v hx hv),bdN_of (c5T u1 fun j x v hx hv=>u3 j x v hx hv)⟩
theorem big_ok (x:Nod)(n:Nat)(hf:x.fits)(hn:x.sz+1<=n):∃b,b07 n x=some b/\(b=false->x.bd/\x.sz<=12000):=by
 obtain⟨r,g1,g2,g3,g4⟩:=nd_ok (q:=6001) ⟨by omega,by omega⟩ x.sz x n (Nat.le_refl _) hf hn;obtain⟨v,e1,e2,e3,e4⟩:=Bk_ok x.sz x n 20001 (Nat.le_refl _) hf hn (by omega) (by omega);unfold b07;rw[g1,Option.bind_some,e1,Option.bind_some];by_cases h:(6000:Int)<r
 ·rw[R4 h,cond_true];exact⟨_,rfl,fun h=>by cases h⟩
 ·rw[O8 h,cond_false];refine⟨_,rfl,fun h2=>?_⟩;have h2:¬(20000:Int)<v:=by
   intro h3;rw[R4 h3]at h2;cases h2
  have:=g4 (by omega);exact⟨e4 (by omega),by omega⟩
end Go.Proofs.YtmippldlhnajkaaGreatDoor
