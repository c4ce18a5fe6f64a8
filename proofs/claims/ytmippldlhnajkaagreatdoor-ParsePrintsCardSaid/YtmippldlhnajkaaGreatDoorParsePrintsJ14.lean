/- Texts of ParsePrints, joined. -/
import Derived.Test.YtmippldlhnajkaaGreatDoorParsePrintsJ13
import Derived.Tactics
import Derived.Tactics2
import Derived.BigCall
import Derived.BigGuard
set_option maxRecDepth 100000
set_option maxHeartbeats 20000000
set_option linter.unusedSimpArgs false
set_option linter.unusedVariables false
set_option linter.unusedSectionVars false
namespace Go.Proofs.YtmippldlhnajkaaGreatDoor.Lw
open Go Go.Vm Go.RowKit Go.Lib
theorem nf_rel0 {ρ:Rho}{lab:Lab}{w:World}{v:V}{x:Value}(h:Rel ρ lab w v x)(hn:NF v):Rel b63 b3B w v x:=NF.rel (fun _ _ _=>rfl) h hn
theorem a2F {p:Prop}(h:p):Hid p:=h
def b7v (e:Env)(c:List V)(s:List UInt8):Prop:=∃H1 H2,E e (.call 28 [.ptr 0 0,.agg c]) hp1=some (.ret (.tuple []) H1)/\E e (.call 30 [.ptr 0 0]) H1=some (.ret (.str s) H2)
def hpT:Hp:=[(0,.tip 0 0)]
def b5O (e:Env)(c:List V)(s:List UInt8):Prop:=∃v H1 H2,E e (.call 34 [.slice (.tag 0) 0 [],.agg c]) hpT=some (.ret v H1)/\E e (.call 33 [v,.str [32]]) H1=some (.ret (.str s) H2)
def printed (l:List (List UInt8)):List UInt8:=(l.map (· ++ [10])).flatten
theorem b54 {l:List (List UInt8)}{k:Nat}{s:List UInt8}(h:l[k]? = some s):printed (l.take (k+1))=printed (l.take k)++s++[10]:=by
 unfold printed;rw[List.take_add_one,h];simp
theorem b9z (l:List (List UInt8))(k:Nat):(printed (l.take k)).length <=(printed l).length:=by
 have h:printed l=printed (l.take k)++printed (l.drop k):=by
  unfold printed;rw[<-List.flatten_append,<-List.map_append,List.take_append_drop]
 rw[h,List.length_append];omega
theorem c3I {T e:TypeId}{B0 b:Nat}{bs:List Value}{w w':World}(h:IsBuilder T e B0 b bs w)(hk:∀k,k<w.heap.size->w'.heap[k]? = w.heap[k]?):IsBuilder T e B0 b bs w':=by
 have key:∀{p:Value},BuilderAt T e B0 b p bs w->BuilderAt T e B0 b p bs w':=by
  rintro p ⟨h1,v,h2,h3,h4⟩;have hb:b<w.heap.size:=by
   rcases Nat.lt_or_ge b w.heap.size with h|h
   ·exact h
   ·rw[Array.getElem?_eq_none h]at h2;cases h2
  refine⟨h1,v,(hk b hb).trans h2,?_,h4⟩;refine⟨h3.1,?_⟩;rcases h3.2 with h5 |⟨g,cap,cur,h5,h6,h7,h8⟩
  ·exact .inl h5
  ·have hg:g<w.heap.size:=by
    rcases Nat.lt_or_ge g w.heap.size with h|h
    ·exact h
    ·rw[Array.getElem?_eq_none h]at h7;cases h7
   exact .inr ⟨g,cap,cur,h5,h6,(hk g hg).trans h7,h8⟩
 rcases h with h|h
 ·exact .inl (key h)
 ·exact .inr (key h)
theorem c36 (T e:TypeId)(B0:Nat)(w:World)(hB:B0<=w.heap.size):IsBuilder T e B0 w.heap.size [] (w.alloc (.cells #[.pointer none,.slice none 0 0] T)):=by
 have key:∀{p:Value},BuilderAt T e w.heap.size w.heap.size p [] (w.alloc (.cells #[.pointer none,.slice none 0 0] T))->BuilderAt T e B0 w.heap.size p [] (w.alloc (.cells #[.pointer none,.slice none 0 0] T)):=by
  rintro p ⟨h1,v,h2,h3,h4⟩;refine⟨hB,v,h2,⟨h3.1,?_⟩,h4⟩;rcases h3.2 with h5 |⟨g,cp,cur,h5,h6,r⟩
  ·exact .inl h5
  ·exact .inr ⟨g,cp,cur,h5,by omega,r⟩
 rcases fresh_isBuilder T e w with h|h
 ·exact .inl (key h)
 ·exact .inr (key h)
structure Kid (R:List V->List UInt8->Prop)(w:World)(b o:Nat)(s:List UInt8)(k:Nat):Prop where
 ex:∃c y0 y1 y2 y3 y4 y5 y6 y7 y8 y9,w.cell? ⟨b,o+k*10,none⟩=some y0/\w.cell? ⟨b,o+k*10+1,none⟩=some y1/\w.cell? ⟨b,o+k*10+2,none⟩=some y2/\w.cell? ⟨b,o+k*10+3,none⟩=some y3 /\
  w.cell? ⟨b,o+k*10+4,none⟩=some y4/\w.cell? ⟨b,o+k*10+5,none⟩=some y5/\w.cell? ⟨b,o+k*10+6,none⟩=some y6/\w.cell? ⟨b,o+k*10+7,none⟩=some y7/\w.cell? ⟨b,o+k*10+8,none⟩=some y8/\w.cell? ⟨b,o+k*10+9,none⟩=some y9 /\
  Rel b63 b3B w (.agg c) (.agg #[y0,y1,y2,y3,y4,y5,y6,y7,y8,y9])/\R c s /\ ∀y ∈ [y0,y1,y2,y3,y4,y5,y6,y7,y8,y9],y.oneCell'=true
theorem b47 {a b:Nat}{w w':World}(h:a<=b)(hB:Below b w w'):Below a w w':=⟨hB.os,hB.tape,hB.output,hB.size,fun k hk=>hB.block k (by omega)⟩
theorem c1x (w:World)(cs:Array Value)(t:TypeId)(i:Nat)(v:Value)(hi:i<cs.size)(hv:v.oneCell'=true):(store ⟨w.heap.size,i,none⟩ v).run Tryz.prog (w.alloc (.cells cs t))=.ok () (w.alloc (.cells (cs.setIfInBounds i v) t)):=by
 have h1:(w.alloc (.cells cs t)).cell? ⟨w.heap.size,i,none⟩=some cs[i]:=by simp[hi]
 have h2:(w.alloc (.cells cs t)).frozen? ⟨w.heap.size,i,none⟩=false:=by simp
 rw[run_store _ _ _ _ _ hv];simp[stored,go_sem,h1,h2,World.setCell_alloc_new]
def rhoT:Rho:=⟨fun _=>none,fun k n=>if k=0/\n=0 then some (none,0)else none⟩
theorem simT {w:World}(hkp:KpW w):Sim rhoT b3B hpT w where
 kp:=⟨hkp,fun o k h=>by cases h⟩
 row:=fun k cs h=>by
  simp only[hpT,hget]at h;split at h<;>cases h
 grow:=fun k e cs h=>by
  simp only[hpT,hget]at h;split at h<;>cases h
 tip:=fun k e n h=>by
  have:k=0/\e=0/\n=0:=by
   simp only[hpT,hget]at h;split at h
   ·rename_i hb;cases h;exact⟨(Nat.eq_of_beq_eq_true hb).symm,rfl,rfl⟩
   ·cases h
  obtain⟨rfl,rfl,rfl⟩:=this;exact⟨none,0,by simp[rhoT],Nat.le_refl _,fun _=>rfl,fun _=>rfl,fun a h=>by cases h⟩
 mp:=fun k es h=>by
  simp only[hpT,hget]at h;split at h<;>cases h
 hdom:=fun k n x h=>by
  simp only[rhoT]at h;split at h
  ·rename_i hk;obtain⟨rfl,rfl⟩:=hk;exact⟨0,0,rfl,Nat.le_refl _⟩
  ·cases h
 adom:=fun k x h=>by cases h
 ldom:=fun b o k h=>by cases h
theorem c0z {w w':World}{lab':Lab}(E:Ext b3B w lab' w'):Below w.heap.size w w':=⟨E.os,E.tape,E.output,E.size,fun b hb=>E.blk b hb (fun o k h=>by cases h)⟩
theorem c7m {env:Env}(hE:a5X env){g1 g2:Nat}{c v:V}{H1 H2:Hp}{b s:List UInt8}
  (h1:E env (.call g1 [.slice (.tag 0) 0 [],c]) hpT=some (.ret v H1)) (h2:E env (.call g2 [v,.str b]) H1=some (.ret (.str s) H2))
  {w0 w:World} (hkp:KpW w0) (hkw:w0.heap.size<=w.heap.size) (hk:∀b,b<w0.heap.size->w.heap[b]? = w0.heap[b]?) {x:Value} (hx:Rel b63 b3B w0 c x) :
  Calls env.P g1 #[.slice none 0 0,x] w fun e w1=>∃y,e=.returned y/\Below w.heap.size w w1 /\
   Calls env.P g2 #[y,.string ⟨⟨b⟩⟩] w1 fun e w2=>e=.returned (.string ⟨⟨s⟩⟩)/\Below w.heap.size w w2:=by
 obtain⟨k1,hk1⟩:=(a1P env).at_ _ _ _ h1;obtain⟨k2,hk2⟩:=(a1P env).at_ _ _ _ h2;have hS:=simT (w:=w) ⟨Nat.lt_of_lt_of_le hkp.1 hkw,by rw[hk kpG hkp.1];exact hkp.2⟩;have hp:Rel rhoT b3B w (.slice (.tag 0) 0 []) (.slice none 0 0):=.slice _ 0 [] [] 0 0 none 0 rfl (Nat.le_refl _) (fun h=>by omega) (fun _=>rfl) (fun i x h=>by simp at h) (fun i v x h=>by simp at h) (by simp[rhoT]) (by simp) (by simp);have hc:Rel rhoT b3B w c x:=by
  have h1:Rel b63 b3B w c x:=hx.carry fun b o x h=>⟨rfl,by
   have hb:=a0F h.cell;simp only[cellAt,World.cell?,hk b hb];exact h.cell⟩
  exact h1.ext (Ext.refl _ _) (c8D _)
 have hL:J5 rhoT b3B w [.slice (.tag 0) 0 [],c] [.slice none 0 0,x]:=D9.2 ⟨_,_,rfl,hp,D9.2 ⟨_,_,rfl,hc,⟨rfl,by simp⟩⟩⟩;refine((b5u hE k1).1.call g1 _ _ _ hk1 rhoT b3B w _ ⟨rfl,trivial⟩ hS hL).mono fun e w1 hP=>?_;cases e with
 | returned y =>
  obtain⟨ρ',lab',s1,s2,s3,s4,s5,s6⟩:=hP;refine⟨y,rfl,c0z s2,?_⟩;have hL2:J5 ρ' lab' w1 [v,.str b] [y,.string ⟨⟨b⟩⟩]:=D9.2 ⟨_,_,rfl,s4,D9.2 ⟨_,_,rfl,.str _,⟨rfl,by simp⟩⟩⟩;refine((b5u hE k2).1.call g2 _ _ _ hk2 ρ' lab' w1 _ s5 s1 hL2).mono fun e w2 hP=>?_;cases e with
  | returned v2 =>
   obtain⟨ρ2,lab2,t1,t2,t3,t4,t5,t6⟩:=hP;have hv2:v2=.string ⟨⟨s⟩⟩:=by cases t4;rfl
   exact⟨by rw[hv2],c0z (s2.trans t2)⟩
  | panicked ch=>exact hP.elim
  | outgrown=>exact hP.elim
 | panicked ch=>exact hP.elim
 | outgrown=>exact hP.elim
theorem c60 {env:Env}(b5c:a5X env)(hP:env.P=Tryz.prog)(v0 v1 v2 v3 v4 v5 v6 v7 v9:Value)(ao:Option Addr)(b o cap:Nat)(l:List (List UInt8))(w:World)(hkp:KpW w)(hn:l.length<=cap)(hao:0<l.length->ao=some ⟨b,o,none⟩)
  (hb:0<l.length->b<w.heap.size) (hN:l.length<=140737488355328) (hK:∀(k:Nat) s,l[k]? = some s->Kid (b7v env) w b o s k) (hlen:(printed l).length<=140737488355328) :
  Calls Tryz.prog 9 #[.agg #[v0,v1,v2,v3,v4,v5,v6,v7,.slice ao l.length cap,v9]] w fun e w'=>e=.returned (.string ⟨(printed l).toArray⟩)/\Below w.heap.size w w':=by
 have HK:=a2F hK;have Hlen:=a2F hlen;have Hao:=a2F hao;have Hb:=a2F hb;clear hK hlen hao hb;go_enter Tryz.func9,Tryz.ntmps9;go_wp2_with fail;go_loopw [10] (fun i wr=>∃k:Nat,k<=l.length/\i=.int .i64 k/\Hid (IsBuilder 56 5 w.heap.size (w.heap.size+1) (byteCells (printed (l.take k))) wr)/\Hid (Below w.heap.size w wr)) (fun i _=>l.length-(RowKit.intOf i).toNat)
 case atStart =>
  refine⟨0,Nat.zero_le _,rfl,a2F ?_,a2F ?_⟩
  ·have:=c36 56 5 w.heap.size (w.alloc (.cells #[v0,v1,v2,v3,v4,v5,v6,v7,.slice ao l.length cap,v9] 27)) (by rw[World.size_alloc];omega);rw[World.size_alloc]at this;exact this
  ·exact((Below.refl w.heap.size w).alloc (Nat.le_refl _) _).alloc (by rw[World.size_alloc];omega) _
 case round =>
  obtain⟨k,hk,rfl,HB,HW⟩:=hrel;by_cases hkn:k<l.length
  ·obtain⟨s,hs⟩:∃s,l[k]? = some s:=⟨l[k],List.getElem?_eq_getElem hkn⟩
   have hao:=Hao.out (by omega);subst hao;have hbw:=Hb.out (by omega);obtain⟨c,y0,y1,y2,y3,y4,y5,y6,y7,y8,y9,c0,c1,c2,c3,c4,c5,c6,c7,c8,c9,hr,hline,hone⟩:=(HK.out k s hs).ex;have cc:∀j,wr.cell? ⟨b,j,none⟩=w.cell? ⟨b,j,none⟩:=fun j=>HW.out.cell (p:=⟨b,j,none⟩) hbw;rw[<-cc]at c0 c1 c2 c3 c4 c5 c6 c7 c8 c9;obtain⟨H1,H2,q1,q2⟩:=hline;have Q1:=a2F q1;have Q2:=a2F q2;have HR:=a2F hr;have Hs:=a2F hs;have hBw:=HW.out.size;clear q1 q2 hr hs cc;go_wp2_with fail;rw[c1x _ _ _ _ _ (by simp) (hone _ (by simp))];simp only[Result.andThen];repeat(rw[c1x _ _ _ _ _ (by simp) (hone _ (by simp))];simp only[Result.andThen])
   have hset:((((((((((#[Value.int .i64 0,.string {data:=#[]},.int .i64 0,.int .i64 0,.string {data:=#[]},.int .i64 0,.slice none 0 0,.slice none 0 0,.slice none 0 0,.int .i64 0].setIfInBounds 0 y0).setIfInBounds 1 y1).setIfInBounds 2 y2).setIfInBounds 3 y3).setIfInBounds 4 y4).setIfInBounds 5 y5).setIfInBounds 6 y6).setIfInBounds 7 y7).setIfInBounds 8 y8).setIfInBounds 9 y9) = #[y0,y1,y2,y3,y4,y5,y6,y7,y8,y9]:=by simp
   rw[hset];clear hset;go_wp2_with fail;have hsz:((wr.alloc (.cells #[y0,y1,y2,y3,y4,y5,y6,y7,y8,y9] 27)).alloc (.cells #[.slice none 0 0] 60)).heap.size=wr.heap.size+2:=by rw[World.size_alloc,World.size_alloc]
   have hold:∀j,j<wr.heap.size ->((wr.alloc (.cells #[y0,y1,y2,y3,y4,y5,y6,y7,y8,y9] 27)).alloc (.cells #[.slice none 0 0] 60)).heap[j]? = wr.heap[j]?:=fun j hj =>
    (alloc_old _ _ j (by rw[World.size_alloc];omega)).trans (alloc_old _ _ j hj)
   have hcW:((wr.alloc (.cells #[y0,y1,y2,y3,y4,y5,y6,y7,y8,y9] 27)).alloc (.cells #[.slice none 0 0] 60)).cell? ⟨wr.heap.size+1,0,none⟩=some (.slice none 0 0):=by
    have:=World.cell?_alloc_new (wr.alloc (.cells #[y0,y1,y2,y3,y4,y5,y6,y7,y8,y9] 27)) #[.slice none 0 0] 60 0;rw[World.size_alloc]at this;exact this
   have hzW:((wr.alloc (.cells #[y0,y1,y2,y3,y4,y5,y6,y7,y8,y9] 27)).alloc (.cells #[.slice none 0 0] 60)).frozen? ⟨wr.heap.size+1,0,none⟩=false:=by
    have:=World.frozen?_alloc_new (wr.alloc (.cells #[y0,y1,y2,y3,y4,y5,y6,y7,y8,y9] 27)) #[.slice none 0 0] 60 0;rw[World.size_alloc]at this;exact this
   have TC:=c9U b5c Q1.out Q2.out (w0:=w) (w:=((wr.alloc (.cells #[y0,y1,y2,y3,y4,y5,y6,y7,y8,y9] 27)).alloc (.cells #[.slice none 0 0] 60))) (B:=wr.heap.size+1) hkp (by rw[hsz];omega) (by omega) (fun j hj=>(hold j (by omega)).trans (HW.out.block j hj)) hcW hzW HR.out;rw[hP]at TC;refine TC.mono ?_;rintro e w1 ⟨rfl,hw1,C2⟩;have CC:=a2F C2;clear C2 hcW hzW;go_wp2_with fail;refine CC.out.mono ?_;rintro e w2 ⟨rfl,hw2⟩;have hk2:∀j,j<wr.heap.size->w2.heap[j]? = wr.heap[j]?:=fun j hj=>(hw2.blk j (by omega) (by omega)).trans (hold j hj);have hs2:wr.heap.size<=w2.heap.size:=by have:=hw2.size;omega
   have hlen:=Hlen.out;have hlk:=b9z l (k+1);have hpt:=b54 Hs.out;rw[hpt,List.length_append,List.length_append,List.length_singleton]at hlk;have HB2:=a2F (c3I HB.out hk2);have HW2:=a2F (⟨hw2.os,hw2.tape,hw2.output,hs2,fun j hj=>hk2 j (by omega)⟩:Below wr.heap.size wr w2);have Hpt:=a2F hpt;clear hw1 hw2 hk2 CC hold hsz hpt;go_wp2_with fail;refine(Tryz.Builder_WriteString w.heap.size (w.heap.size+1) _ ⟨⟨s⟩⟩ w2 HB2.out (by rw[byteCells_length];simp only[ByteArray.size];simp;omega) (by omega)).mono ?_;rintro e w3 ⟨rfl,h3,hb3⟩;have H3:=a2F h3;have Hb3:=a2F hb3;clear h3 hb3;go_wp2_with fail;refine(Tryz.Builder_WriteByte w.heap.size (w.heap.size+1) _ 10 w3 (.inr H3.out) (by rw[List.length_append,byteCells_length,strCells_length];simp only[ByteArray.size];simp;omega) (by have:=Hb3.out.size;omega)).mono ?_;rintro e w4 ⟨rfl,h4,hb4⟩;have hnext:byteCells (printed (l.take k))++strCells ⟨⟨s⟩⟩++[.int .u8 10]=byteCells (printed (l.take (k+1))):=by
    rw[Hpt.out,strCells_eq,byteCells_append,byteCells_append];rfl
   rw[hnext]at h4;have H4:=a2F (Or.inr h4:IsBuilder 56 5 w.heap.size (w.heap.size+1) _ w4);have Hb4:=a2F ((HW.out.trans (b47 hBw HW2.out)).trans (Hb3.out.trans hb4));clear h4 hb4 hnext;go_wp2;exact⟨⟨k+1,by omega,by go_num,H4,Hb4⟩,by simp[RowKit.intOf];omega⟩
  ·have hke:k=l.length:=by omega
   subst hke;have hB':=HB.out;rw[List.take_length]at hB';have hBw:=HW.out.size;have HB2:=a2F hB';clear hB';go_wp2_with fail;refine(Tryz.Builder_String_any w.heap.size (w.heap.size+1) _ wr HB2.out hBw).mono ?_;rintro e w5 ⟨rfl,hb5⟩;have Hb5:=a2F (HW.out.trans hb5);clear hb5;go_wp2;go_ret;exact⟨rfl,Hb5.out⟩
theorem c43 {env:Env}(b5c:a5X env)(hP:env.P=Tryz.prog)(v0 v1 v2 v3 v4 v5 v6 v7 v9:Value)(ao:Option Addr)(b o cap:Nat)(l:List (List UInt8))(w:World)(hkp:KpW w)(hn:l.length<=cap)(hao:0<l.length->ao=some ⟨b,o,none⟩)
  (hb:0<l.length->b<w.heap.size) (hN:l.length<=140737488355328) (hK:∀(k:Nat) s,l[k]? = some s->Kid (b5O env) w b o s k) (hlen:(printed l).length<=140737488355328) :
  Calls Tryz.prog 10 #[.agg #[v0,v1,v2,v3,v4,v5,v6,v7,.slice ao l.length cap,v9]] w fun e w'=>e=.returned (.string ⟨(printed l).toArray⟩)/\Below w.heap.size w w':=by
 have HK:=a2F hK;have Hlen:=a2F hlen;have Hao:=a2F hao;have Hb:=a2F hb;clear hK hlen hao hb;go_enter Tryz.func10,Tryz.ntmps10;go_wp2_with fail;go_loopw [4] (fun i wr=>∃k:Nat,k<=l.length/\i=.int .i64 k/\Hid (IsBuilder 56 5 (w.heap.size+1) (w.heap.size+1) (byteCells (printed (l.take k))) wr)/\Hid (Below (w.heap.size+1) (w.alloc (.cells #[v0,v1,v2,v3,v4,v5,v6,v7,.slice ao l.length cap,v9] 27)) wr)) (fun i _=>l.length-(RowKit.intOf i).toNat)
 case atStart =>
  refine⟨0,Nat.zero_le _,rfl,a2F ?_,a2F ?_⟩
  ·have:=fresh_isBuilder 56 5 (w.alloc (.cells #[v0,v1,v2,v3,v4,v5,v6,v7,.slice ao l.length cap,v9] 27));rw[World.size_alloc]at this;exact this
  ·exact(Below.refl (w.heap.size+1) _).alloc (by rw[World.size_alloc];omega) _
 case round =>
  obtain⟨k,hk,rfl,HB,HW⟩:=hrel;have hbx:wr.cell? ⟨w.heap.size,8,none⟩=some (.slice ao l.length cap):=(HW.out.cell (p:=⟨w.heap.size,8,none⟩) (Nat.lt_succ_self _)).trans (by rw[World.cell?_alloc_new];rfl);by_cases hkn:k<l.length
  ·obtain⟨s,hs⟩:∃s,l[k]? = some s:=⟨l[k],List.getElem?_eq_getElem hkn⟩
   have hao:=Hao.out (by omega);subst hao;have hbw:=Hb.out (by omega);obtain⟨c,y0,y1,y2,y3,y4,y5,y6,y7,y8,y9,c0,c1,c2,c3,c4,c5,c6,c7,c8,c9,hr,hline,hone⟩:=(HK.out k s hs).ex;have old:∀j,j<w.heap.size->wr.heap[j]? = w.heap[j]?:=fun j hj=>(HW.out.block j (by omega)).trans (alloc_old _ _ j hj);have cc:∀j,wr.cell? ⟨b,j,none⟩=w.cell? ⟨b,j,none⟩:=fun j=>by simp only[World.cell?,old b hbw]
   have hsw:=HW.out.size;rw[World.size_alloc]at hsw;have Old:=a2F old;clear old;rw[<-cc]at c0 c1 c2 c3 c4 c5 c6 c7 c8 c9;obtain⟨v,H1,H2,q1,q2⟩:=hline;have Q1:=a2F q1;have Q2:=a2F q2;have HR:=a2F hr;have Hs:=a2F hs;have hBw:=HW.out.size;clear q1 q2 hr hs cc;go_wp2_with fail;have TC:=c7m b5c Q1.out Q2.out (w0:=w) (w:=wr) hkp (by omega) Old.out HR.out;rw[hP]at TC;refine TC.mono ?_;rintro e w1 ⟨y,rfl,hw1,C2⟩;have CC:=a2F C2;have W1:=a2F hw1;clear C2 hw1;go_wp2_with fail;refine CC.out.mono ?_;rintro e w2 ⟨rfl,hw2⟩;have hk2:∀j,j<wr.heap.size->w2.heap[j]? = wr.heap[j]?:=fun j hj=>hw2.block j hj;have hs2:wr.heap.size<=w2.heap.size:=hw2.size;have hlen:=Hlen.out;have hlk:=b9z l (k+1);have hpt:=b54 Hs.out;rw[hpt,List.length_append,List.length_append,List.length_singleton]at hlk;have HB2:=a2F (c3I HB.out hk2);have HW2:=a2F hw2;have Hpt:=a2F hpt;clear hw2 hk2 CC hpt;go_wp2_with fail;refine(Tryz.Builder_WriteString (w.heap.size+1) (w.heap.size+1) _ ⟨⟨s⟩⟩ w2 HB2.out (by rw[byteCells_length];simp only[ByteArray.size];simp;omega) (by omega)).mono ?_;rintro e w3 ⟨rfl,h3,hb3⟩;have H3:=a2F h3;have Hb3:=a2F hb3;clear h3 hb3;go_wp2_with fail;refine(Tryz.Builder_WriteString (w.heap.size+1) (w.heap.size+1) _ _ w3 (.inr H3.out) (by rw[List.length_append,byteCells_length,strCells_length];simp only[ByteArray.size];simp;omega) (by have:=Hb3.out.size;omega)).mono ?_;rintro e w4 ⟨rfl,h4,hb4⟩;have hnext:byteCells (printed (l.take k))++strCells ⟨⟨s⟩⟩++[.int .u8 10]=byteCells (printed (l.take (k+1))):=by
    rw[Hpt.out,strCells_eq,byteCells_append,byteCells_append];rfl
   have h5:IsBuilder 56 5 (w.heap.size+1) (w.heap.size+1) (byteCells (printed (l.take k))++strCells ⟨⟨s⟩⟩++[.int .u8 10]) w4:=.inr h4;rw[hnext]at h5;have H4:=a2F h5;have Hb4:=a2F ((HW.out.trans (b47 hsw HW2.out)).trans (Hb3.out.trans hb4));clear h4 h5 hb4 hnext;go_wp2;exact⟨⟨k+1,by omega,by go_num,H4,Hb4⟩,by simp[RowKit.intOf];omega⟩
  ·have hke:k=l.length:=by omega
   subst hke;have hB':=HB.out;rw[List.take_length]at hB';have hBw:=HW.out.size;rw[World.size_alloc]at hBw;have HB2:=a2F hB';clear hB';go_wp2_with fail;refine(Tryz.Builder_String_any (w.heap.size+1) (w.heap.size+1) _ wr HB2.out hBw).mono ?_;rintro e w5 ⟨rfl,hb5⟩;have Hb5:=a2F ((Below.refl w.heap.size w).alloc (Nat.le_refl _) _ |>.trans (b47 (Nat.le_succ _) (HW.out.trans hb5)));clear hb5;go_wp2;go_ret;exact⟨rfl,Hb5.out⟩
theorem c04 {e:Env}(c:List V)(s s':List UInt8)(h:b7v e c s)(g:b7v e c s'):s=s':=by
 obtain⟨H1,H2,a1,a2⟩:=h;obtain⟨K1,K2,b1,b2⟩:=g;rw[a1]at b1;cases b1;rw[a2]at b2;cases b2;rfl
theorem c05 {e:Env}(c:List V)(s s':List UInt8)(h:b5O e c s)(g:b5O e c s'):s=s':=by
 obtain⟨v,H1,H2,a1,a2⟩:=h;obtain⟨u,K1,K2,b1,b2⟩:=g;rw[a1]at b1;cases b1;rw[a2]at b2;cases b2;rfl
section
variable {R:List V->List UInt8->Prop}
inductive Lines (R:List V->List UInt8->Prop):List V->List (List UInt8)->Prop
 | nil:Lines R [] []
 | cons (c r:List V) (s:List UInt8) (l:List (List UInt8)):c.length=10->R c s->Lines R r l->Lines R (c++r) (s::l)
theorem Lines.det (hR:∀c s s',R c s->R c s'->s=s'){cs:List V}{l:List (List UInt8)}(h:Lines R cs l):∀{l'},Lines R cs l'->l=l':=by
 induction h with
 | nil =>
  intro l' g;generalize hq:([]:List V)=q at g;cases g with
  | nil=>rfl
  | cons c r s l h1 h2 h3 =>
   have:=congrArg List.length hq;rw[List.length_append]at this;simp at this;omega
 | cons c r s l h1 h2 h3 ih =>
  intro l' g;generalize hq:c++r=q at g;cases g with
  | nil =>
   have:=congrArg List.length hq;rw[List.length_append,h1]at this;simp only[List.length_nil]at this;omega
  | cons c' r' s' l'' g1 g2 g3 =>
   obtain⟨rfl,rfl⟩:=List.append_inj hq (by rw[h1,g1]);rw[hR _ _ _ h2 g2,ih g3]
theorem Lines.get {cs:List V}{l:List (List UInt8)}(h:Lines R cs l):∀{k:Nat} {s:List UInt8},l[k]? = some s->R ((cs.drop (k*10)).take 10) s/\k*10+10<=cs.length:=by
 induction h with
 | nil=>intro k s h;simp at h
 | cons c r s0 l h1 h2 h3 ih =>
  intro k s hk;cases k with
  | zero =>
   simp only[List.getElem?_cons_zero,Option.some.injEq]at hk;subst hk;refine⟨?_,by rw[List.length_append];omega⟩;rw[Nat.zero_mul,List.drop_zero,List.take_append_of_le_length (by omega),List.take_of_length_le (by omega)];exact h2
  | succ k =>
   simp only[List.getElem?_cons_succ]at hk;obtain⟨g1,g2⟩:=ih hk;refine⟨?_,by rw[List.length_append];omega⟩;rw[show(k+1)*10=c.length+k*10 from by omega,<-List.drop_drop,List.drop_left];exact g1
noncomputable def a5g (R:List V->List UInt8->Prop):List V->Hp->Option Out:=fun args H=>match args with
 | [.agg [_,_,_,_,_,_,_,_,.slice _ n cs,_]]=>@dite _ (∃l,Lines R cs l/\l.length=n/\l.length<=140737488355328/\(printed l).length<=140737488355328) (Classical.propDecidable _) (fun h=>some (.ret (.str (printed h.choose)) H)) (fun _=>none)
 | _=>none
theorem b4x (hR:∀c s s',R c s->R c s'->s=s'){c0 c1 c2 c3 c4 c5 c6 c7 c9:V}{ow:Own}{n:Nat}{cs:List V}{l:List (List UInt8)}{H:Hp}(h:Lines R cs l)(hn:l.length=n)(hN:l.length<=140737488355328)(hl:(printed l).length<=140737488355328) :
  a5g R [.agg [c0,c1,c2,c3,c4,c5,c6,c7,.slice ow n cs,c9]] H=some (.ret (.str (printed l)) H):=by
 have hex:∃l,Lines R cs l/\l.length=n/\l.length<=140737488355328/\(printed l).length<=140737488355328:=⟨l,h,hn,hN,hl⟩
 have he:hex.choose=l:=(h.det hR hex.choose_spec.1).symm;simp only[a5g];rw[dif_pos hex,he]
theorem ten {α:Type}(l:List α)(h:l.length=10):∃y0 y1 y2 y3 y4 y5 y6 y7 y8 y9,l=[y0,y1,y2,y3,y4,y5,y6,y7,y8,y9]:=by
 match l,h with
 | [y0,y1,y2,y3,y4,y5,y6,y7,y8,y9],_=>exact⟨_,_,_,_,_,_,_,_,_,_,rfl⟩
theorem b1p {f:Nat} (hf:∃fn c,Tryz.prog.funcs[f]? = some fn/\(fn.name == "runtime.NumGoroutine")=false/\fn.body=some c) (walk:∀(v0 v1 v2 v3 v4 v5 v6 v7 v9:Value) (ao:Option Addr) (b o cap:Nat) (l:List (List UInt8)) (w:World) (hkp:KpW w) (hn:l.length<=cap) (hao:0<l.length->ao=some ⟨b,o,none⟩)
  (hb:0<l.length->b<w.heap.size) (hN:l.length<=140737488355328) (hK:∀(k:Nat) s,l[k]? = some s->Kid R w b o s k) (hlen:(printed l).length<=140737488355328),
  Calls Tryz.prog f #[.agg #[v0,v1,v2,v3,v4,v5,v6,v7,.slice ao l.length cap,v9]] w fun e w'=>e=.returned (.string ⟨(printed l).toArray⟩)/\Below w.heap.size w w'):a6A Tryz.prog f (a5g R):=by
 refine⟨fun args H out h ρ lab w xs hc hS hx=>?_,hf⟩;unfold a5g at h;split at h
 ·rename_i c0 c1 c2 c3 c4 c5 c6 c7 ow n cs c9;split at h
  ·rename_i hex;cases h;obtain⟨hL,hn,hN,hlen⟩:=hex.choose_spec;generalize hex.choose=l at hL hn hN hlen;obtain⟨x1,r1,rfl,a1,a2⟩:=D9.1 hx;have:r1=[]:=by have:=a2.1;simpa using this
   subst this;cases a1 with
   | agg _ vs e1 e2 =>
   obtain⟨v0,v1,v2,v3,v4,v5,v6,v7,v8,v9,rfl⟩:=ten vs (by rw[e1];rfl);have q8:=e2 8 _ _ rfl rfl;cases q8 with
   | slice _ _ _ ys b o ao cap g1 g2 g3 g4 g5 g6 g7 g8 g9 =>
   subst hn;have K:=walk v0 v1 v2 v3 v4 v5 v6 v7 v9 ao b o cap l w hS.kp.1 g2 g3 (fun h0=>?_) hN (fun k s hk=>⟨?_⟩) hlen
   ·refine K.mono fun e w' ⟨he,hw⟩=>?_;subst he;have G:a0U w w':=⟨hw.size,hw.os,hw.tape,hw.output,fun b hb=>hw.block b hb⟩
    exact⟨ρ,lab,hS.grew G,G.ext lab,⟨fun _ _ _ h=>h,fun _ _ _ _ h=>h⟩,.str _,hc,Nat.le_refl _⟩
   ·obtain⟨_,h2⟩:=hL.get (List.getElem?_eq_getElem h0);have hy:0<ys.length:=by rw[g1];omega
    have:=g5 0 ys[0] (by simp[hy]);exact a0F this.cell
   ·obtain⟨h1,h2⟩:=hL.get hk;have hlen2:((ys.drop (k*10)).take 10).length=10:=by
     rw[List.length_take,List.length_drop,g1];omega
    obtain⟨y0,y1,y2,y3,y4,y5,y6,y7,y8,y9,hy⟩:=ten _ hlen2;have get:∀j,j<10 -> ∀y,[y0,y1,y2,y3,y4,y5,y6,y7,y8,y9][j]? = some y->ys[k*10+j]? = some y:=by
     intro j hj y hyj;rw[<-hy,List.getElem?_take,if_pos hj,List.getElem?_drop]at hyj;exact hyj
    have cell:∀j,j<10 -> ∀y,[y0,y1,y2,y3,y4,y5,y6,y7,y8,y9][j]? = some y->w.cell? ⟨b,o+k*10+j,none⟩=some y:=by
     intro j hj y hyj;have:=(g5 _ _ (get j hj y hyj)).cell;rw[<-Nat.add_assoc]at this;exact this
    refine⟨(cs.drop (k*10)).take 10,y0,y1,y2,y3,y4,y5,y6,y7,y8,y9,cell 0 (by omega) _ rfl,cell 1 (by omega) _ rfl,cell 2 (by omega) _ rfl,cell 3 (by omega) _ rfl,cell 4 (by omega) _ rfl,cell 5 (by omega) _ rfl,cell 6 (by omega) _ rfl,cell 7 (by omega) _ rfl,cell 8 (by omega) _ rfl,cell 9 (by omega) _ rfl,?_,h1,?_⟩
    ·refine .agg _ [y0,y1,y2,y3,y4,y5,y6,y7,y8,y9] ?_ (fun i v x hv hx=>?_)
     ·rw[List.length_take,List.length_drop];show 10=_;omega
     ·have hi:i<10:=by
       rcases Nat.lt_or_ge i 10 with h|h
       ·exact h
       ·rw[List.getElem?_eq_none (by simpa using h)]at hx;cases hx
      rw[List.getElem?_take,if_pos hi,List.getElem?_drop]at hv;exact nf_rel0 (g6 _ _ _ hv (get i hi x hx)) (g9 v (List.mem_of_getElem? hv))
    ·intro y hyy;obtain⟨j,hj,rfl⟩:=List.mem_iff_getElem.1 hyy;exact g8 _ (List.mem_of_getElem? (get j (by simpa using hj) _ (by simp[hj])))
  ·cases h
 ·cases h
end
theorem c1p {e:Env}(hE:a5X e)(hP:e.P=Tryz.prog):a6A Tryz.prog 9 (a5g (b7v e)):=b1p ⟨_,_,Tryz.func9,rfl,rfl⟩ (c60 hE hP)
theorem c9u {e:Env}(hE:a5X e)(hP:e.P=Tryz.prog):a6A Tryz.prog 10 (a5g (b5O e)):=b1p ⟨_,_,Tryz.func10,rfl,rfl⟩ (c43 hE hP)
end Go.Proofs.YtmippldlhnajkaaGreatDoor.Lw
namespace Go.Proofs.YtmippldlhnajkaaGreatDoor.Aw
open Go Go.Vm Lw
abbrev c6A:=b7v a92
noncomputable def a5g:=Lw.a5g c6A
theorem b1p:a6A Tryz.prog 9 a5g:=c1p b5c rfl
end Go.Proofs.YtmippldlhnajkaaGreatDoor.Aw
namespace Go.Proofs.YtmippldlhnajkaaGreatDoor.Aw
open Go Go.Vm
noncomputable def a9s:Nat->Option Hand|33=>some (.plain b2F)|9=>some (.plain a5g)|53=>some (.via gPre b7o)|_=>none
noncomputable def env:Env:={P:=Tryz.prog,T:=T,keep:=keep,byref:=fun _ _=>none,meth:=fun _ _=>none,tags:=fun g=>has g tagL,argTags:=fun g=>has g argL,quiet:=fun g=>has g a8C,loose:=fun _=>false,ok:=fun g=>has g okL,cut:=cut,b0S:=b0S,a6V:=a6V,sep:=sep,mask:=mask,look:=fun g=>has g b7w,frz:=fun g=>has g b5e,slk:=slk,full:=true,intr:=a9s}
theorem codes:b0A env okL=true:=by kernel_rfl
theorem b5j:a7L env:=by
 intro _ _ _ h;cases h
theorem b4X:a5X env:=⟨b5j,a8j tys,mixed,a6F (fun _ h=>h) codes,(fun g h hg=>by simp only[env,a9s]at hg;first |(cases hg;done) |(split at hg<;>first |(cases hg;done) |(cases hg;exact b4l) |(cases hg;exact b1p))),(fun g pre post hg=>by simp only[env,a9s]at hg;first |(cases hg;done) |(split at hg<;>first |(cases hg;done) |(cases hg;exact a6H)))⟩
end Go.Proofs.YtmippldlhnajkaaGreatDoor.Aw
