/- Texts of ParseValid, joined. -/
import Derived.Test.YtimgnjbjbdgmaaaGreatDoorParseValidJ13
import Derived.KernelRfl
import Derived.Test.YtimgnjbjbdgmaaaGreatDoorProg
set_option maxRecDepth 100000
set_option maxHeartbeats 20000000
set_option linter.all false
namespace Go.Proofs.YtimgnjbjbdgmaaaGreatDoor.Pr
open Go Go.Vm
def T:List (Nat×Ty):=[(3,⟨.int .i64,1,8,[.i 0]⟩),(4,⟨.bool,1,1,[.bool false]⟩),(9,⟨.string,1,16,[.str []]⟩),(22,⟨.slice 24,1,24,[.slice .nil 0 []]⟩),(24,⟨.struct [(3,0),(9,1),(3,2),(22,3)],4,56,[.i 0,.str [],.i 0,.slice .nil 0 []]⟩),(25,⟨.slice 27,1,24,[.slice .nil 0 []]⟩),(27,⟨.struct [(3,0),(9,1),(3,2),(24,3),(22,7),(25,8),(3,9)],10,144,[.i 0,.str [],.i 0,.i 0,.str [],.i 0,.slice .nil 0 [],.slice .nil 0 [],.slice .nil 0 [],.i 0]⟩),(56,⟨.ptr 59,1,8,[.nilptr]⟩),(57,⟨.slice 9,1,24,[.slice .nil 0 []]⟩),(59,⟨.struct [(57,0)],1,24,[.slice .nil 0 []]⟩),(60,⟨.func,1,8,[.nilFunc]⟩),(92,⟨.map 3 9,1,8,[.opq]⟩),(94,⟨.func,1,8,[.nilFunc]⟩),(96,⟨.slice 3,1,24,[.slice .nil 0 []]⟩)]
def keep:Nat->Nat->List Nat|26,13=>[0,48,49,50]|26,21=>[0,69,70,71]|26,37=>[0,118,119,120]|26,100008=>[0,3]|26,100010=>[0,3]|26,100018=>[0]|26,100029=>[0,69,70,71]|26,100030=>[0]|26,100045=>[0,118,119,120]|26,100046=>[0]|26,130006=>[0,3,11,12]|39,24=>[0,3,5]|39,100004=>[0,3]|39,100006=>[0,3]|39,100022=>[0,3]|39,100028=>[0]|39,130003=>[0,3,14]|39,130005=>[0,3,31]|57,3=>[1,5,11,12,13]|57,6=>[1,5,7,11,12,13,17,18,19]|57,100011=>[1,5,7,11,12,13,17,18,19]|57,100012=>[1,5,11,12,13]|57,100013=>[5]|58,100007=>[0,3]|58,100013=>[0,3]|58,100018=>[0]|59,2=>[0,7,8,9]|59,100008=>[0,5,7,8,9]|60,5=>[0,3,23,24,25]|60,15=>[0,52,53,54]|60,100012=>[0,3]|77,15=>[0,3,5]|77,22=>[0,3,6]|77,38=>[0,3,7]|77,100019=>[0,3]|77,100027=>[0,3,6]|77,100028=>[0,3]|77,100031=>[0]|77,100036=>[0,3]|77,100043=>[0,3,7]|77,100044=>[0]|77,100045=>[0]|78,3=>[0,5,6]|78,100005=>[0,5,6]|78,100009=>[0,5,6]|78,100015=>[0]|79,6=>[0,3,5,6]|79,15=>[0,7,8]|79,100012=>[0,3]|79,100019=>[0]|80,3=>[0,5,6]|80,100009=>[0,5,6]|80,100011=>[0,5]|80,100013=>[0]|81,12=>[0,3,5]|81,21=>[0,3,6]|81,100007=>[0,3]|81,100016=>[0]|81,100020=>[0,3]|81,100027=>[0,3,6]|81,100028=>[0,3]|81,100030=>[0]|81,100043=>[0]|81,100044=>[0]|97,1=>[0,2,8,9,10]|97,100006=>[0,2,7,8,9,10]|99,1=>[0,2,8,9,10]|99,100006=>[0,2,7,8,9,10]|100,3=>[0,10,11,12]|100,100008=>[0]|129,3=>[1,2,5,6]|129,6=>[1,2,5,6,7]|129,100005=>[1,2,5,6]|129,100011=>[5]|130,4=>[0,5,6]|130,100009=>[0,5,6]|130,100014=>[0,5,6]|130,100016=>[0]|132,5=>[0,3,5]|132,18=>[0,3,6]|132,25=>[0,3,7]|132,39=>[0,3,8]|132,100009=>[0]|132,100014=>[0,3]|132,100018=>[0,3]|132,100023=>[0]|132,100030=>[0,3,7]|132,100031=>[0]|132,100037=>[0,3]|132,100039=>[0,3]|132,100043=>[0]|132,100044=>[0,3]|132,130035=>[0,3,104]|133,2=>[0,3,5]|133,100008=>[0,3,5]|133,100009=>[0]|149,40=>[0,140,141,142]|149,100007=>[0,3]|149,100011=>[0,3]|149,100014=>[0]|149,100047=>[0]|149,100052=>[0]|150,100006=>[1,2]|156,14=>[0,3,5]|156,38=>[0,3,8]|156,100016=>[0,3,5]|156,100022=>[0,3,5,6,7]|156,100024=>[0,3,5,6,7]|156,100025=>[0]|156,100035=>[0]|156,100043=>[0,3,8]|156,100044=>[0]|156,100045=>[0,3]|157,8=>[0,3,5]|157,18=>[0,3,6]|157,31=>[0,3,7]|157,39=>[0,3,8]|157,100008=>[0,3]|157,100010=>[0,3,5]|157,100015=>[0,3,5]|157,100020=>[0,3,6]|157,100028=>[0]|157,100036=>[0,3,7]|157,100043=>[0]|157,130005=>[0,3,10,11]|175,3=>[0,1,5]|175,100008=>[0,1,5]|175,100009=>[0]|176,31=>[0,3,5]|176,35=>[0,3,5,6]|176,100025=>[0]|176,100033=>[0,3,5]|176,100039=>[0]|176,100040=>[0]|177,18=>[0,3,6]|177,100024=>[0,3,6]|177,100025=>[0,3]|177,100027=>[0]|184,100005=>[0,4]|187,2=>[0,3,7,8,9]|187,100012=>[0,3,7,8,9]|188,6=>[0,25,26,27]|188,9=>[0,25,26,27,32,33,34]|188,100014=>[0,25,26,27]|188,100015=>[0]|204,130008=>[0,3,9]|_,_=>[]
def cut:Nat->Nat->Bool|26,8=>true|26,10=>true|26,18=>true|26,29=>true|26,30=>true|26,45=>true|26,46=>true|26,30006=>true|39,4=>true|39,6=>true|39,22=>true|39,28=>true|39,30003=>true|39,30005=>true|57,11=>true|57,12=>true|57,13=>true|58,7=>true|58,13=>true|58,18=>true|59,8=>true|60,12=>true|77,19=>true|77,27=>true|77,28=>true|77,31=>true|77,36=>true|77,43=>true|77,44=>true|77,45=>true|78,5=>true|78,9=>true|78,15=>true|79,12=>true|79,19=>true|80,9=>true|80,11=>true|80,13=>true|81,7=>true|81,16=>true|81,20=>true|81,27=>true|81,28=>true|81,30=>true|81,43=>true|81,44=>true|97,6=>true|99,6=>true|100,8=>true|129,5=>true|129,11=>true|130,9=>true|130,14=>true|130,16=>true|132,9=>true|132,14=>true|132,18=>true|132,23=>true|132,30=>true|132,31=>true|132,37=>true|132,39=>true|132,43=>true|132,44=>true|132,30035=>true|133,8=>true|133,9=>true|149,7=>true|149,11=>true|149,14=>true|149,47=>true|149,52=>true|150,6=>true|156,16=>true|156,22=>true|156,24=>true|156,25=>true|156,35=>true|156,43=>true|156,44=>true|156,45=>true|157,8=>true|157,10=>true|157,15=>true|157,20=>true|157,28=>true|157,36=>true|157,43=>true|157,30005=>true|175,8=>true|175,9=>true|176,25=>true|176,33=>true|176,39=>true|176,40=>true|177,24=>true|177,25=>true|177,27=>true|184,5=>true|187,12=>true|188,14=>true|188,15=>true|204,30008=>true|_,_=>false
def b5x:List Nat:=[]
def b4g:Nat->Nat->Bool|77,0=>true|78,0=>true|79,0=>true|80,0=>true|81,0=>true|130,0=>true|131,0=>true|132,0=>true|133,0=>true|156,0=>true|157,0=>true|175,0=>true|176,0=>true|177,0=>true|196,0=>true|f,_=>has f b5x
def a9z:Nat->Nat->Bool|77,0=>true|78,0=>true|79,0=>true|80,0=>true|81,0=>true|130,0=>true|131,0=>true|132,0=>true|133,0=>true|156,0=>true|157,0=>true|175,0=>true|176,0=>true|177,0=>true|196,0=>true|f,_=>has f b5x
def slk:Nat->Nat->List (Nat×Nat)|_,_=>[]
def sep:Nat->Nat->Option (List Nat×List Nat)|156,26=>some ([0,1,2,3,5,6,4,7,8],[100])|156,28=>some ([0,1,2,4,5,3,6,7],[109])|176,13=>some ([0,1,3,4,5,6,2,7,8],[70,68])|176,15=>some ([0,1,3,4,5,6,2,7,8],[80,78])|176,17=>some ([0,1,3,4,5,6,2,7,8],[90,88])|_,_=>none
def mask:Nat->Nat->List Nat|156,26=>[0,0,2,6,15,0,32,127,255]|156,28=>[0,0,2,7,0,16,63,127]|176,13=>[0,0,3,0,8,24,56,127,255]|176,15=>[0,0,3,0,8,24,56,127,255]|176,17=>[0,0,3,0,8,24,56,127,255]|_,_=>[]
def okL:List Nat:=[26,28,39,55,56,57,58,59,60,61,62,77,78,79,80,81,97,98,99,100,101,102,103,104,105,129,130,131,132,133,149,150,156,157,168,169,170,173,175,176,177,184,185,187,188,189,196,197,204,205]
def c3I:List Nat:=[21]
def b2g:List Nat:=[38,57,101,129,169,172,173,174,186,197]
def b7g:List Nat:=[]
def tagL:List Nat:=[77,78,79,80,81,130,131,132,133,156,157,175,176,177,196]++b5x
def argL:List Nat:=[77,78,79,80,81,130,131,132,133,156,157,175,176,177,196]++b5x
theorem tys:tysB Tryz.prog T=true:=zKr
theorem mixed:Tryz.prog.follows .mixedOrders=true:=zKr
def b8s:Nat->Option Hand|38=>some (.plain b4w)|172=>some (.plain (b0m c3u))|22=>some (.via gPre c0j)|_=>none
noncomputable def b8a:Env:={P:=Tryz.prog,T:=T,keep:=keep,byref:=fun _ _=>none,meth:=fun _ _=>none,tags:=fun g=>has g tagL,argTags:=fun g=>has g argL,quiet:=fun g=>has g b2g,loose:=fun _=>false,ok:=fun g=>has g okL,cut:=cut,b4g:=b4g,a9z:=a9z,sep:=sep,mask:=mask,look:=fun g=>has g c3I,frz:=fun g=>has g b7g,slk:=slk,full:=true,intr:=b8s}
theorem c5t:b2U b8a okL=true:=zKr
theorem c1N:a9V b8a:=by
 intro _ _ _ h;cases h
theorem b8b:a7M b8a:=⟨c1N,b0F tys,mixed,a9P (fun _ h=>h) c5t,(fun g h hg=>by simp only[b8a,b8s]at hg;first |(cases hg;done) |(split at hg<;>first |(cases hg;done) |(cases hg;exact b7E) |(cases hg;exact c0n))),(fun g pre post hg=>by simp only[b8a,b8s]at hg;first |(cases hg;done) |(split at hg<;>first |(cases hg;done) |(cases hg;exact b0s)))⟩
noncomputable def b29:Nat->Option Hand|38=>some (.plain b4w)|41=>some (.plain (b0m Sc.tokF))|34=>some (.plain (b0m Sc.tokF))|186=>some (.plain (b0m Rp.escF))|174=>some (.plain (b0m Rp.escF))|172=>some (.plain (b0m c3u))|22=>some (.via gPre c0j)|_=>none
noncomputable def env:Env:={P:=Tryz.prog,T:=T,keep:=keep,byref:=fun _ _=>none,meth:=fun _ _=>none,tags:=fun g=>has g tagL,argTags:=fun g=>has g argL,quiet:=fun g=>has g b2g,loose:=fun _=>false,ok:=fun g=>has g okL,cut:=cut,b4g:=b4g,a9z:=a9z,sep:=sep,mask:=mask,look:=fun g=>has g c3I,frz:=fun g=>has g b7g,slk:=slk,full:=true,intr:=b29}
theorem codes:b2U env okL=true:=zKr
theorem b8H:a9V env:=by
 intro _ _ _ h;cases h
theorem b5j:a7M env:=⟨b8H,b0F tys,mixed,a9P (fun _ h=>h) codes,(fun g h hg=>by simp only[env,b29]at hg;first |(cases hg;done) |(split at hg<;>first |(cases hg;done) |(cases hg;exact b7E) |(cases hg;exact Sc.c4L) |(cases hg;exact Sc.c0Z) |(cases hg;exact Rp.b21) |(cases hg;exact Re.b21) |(cases hg;exact c0n))),(fun g pre post hg=>by simp only[env,b29]at hg;first |(cases hg;done) |(split at hg<;>first |(cases hg;done) |(cases hg;exact b0s)))⟩
end Go.Proofs.YtimgnjbjbdgmaaaGreatDoor.Pr
namespace Go.Vm
open Go
variable {B:Nat} {x:Value} {w w0:World}
variable {env:Env}
def b6J:Rho:=⟨fun _=>none,fun _ _=>none⟩
def b3d:Lab:=fun _ _=>none
theorem c7P (ρ:Rho):b6J.le ρ:=⟨fun _ _ h=>(by cases h),fun _ _ _ h=>(by cases h)⟩
def b7q (B:Nat):Rho:=⟨fun k=>if k=0 then some (some (B,0),none)else none,fun k n=>if k=1/\n=0 then some (none,0)else none⟩
def a6j (B:Nat):Lab:=fun b o=>if b=B/\o=0 then some (some 0)else none
def hp1:Hp:=[(0,.row [.slice (.tag 1) 0 []]),(1,.tip 0 0)]
theorem old_rel (hB:w0.heap.size<=B)(hk:∀b,b<w0.heap.size->w.heap[b]? = w0.heap[b]?){v:V}(h:Rel b6J b3d w0 v x):Rel (b7q B) (a6j B) w v x:=by
 have h1:Rel b6J (a6j B) w v x:=by
  refine h.carry fun b o x h=>?_;have hb:=a1K h.cell;refine⟨?_,?_⟩
  ·simp only[a6j];rw[if_neg zOm]
  simp only[cellAt,World.cell?,hk b hb];exact h.cell
 exact h1.ext (Ext.refl _ _) (c7P _)
theorem sim1 (hkp:KpW w)(hkB:∀p∈kpL,p.1<B)(hc:w.cell? ⟨B,0,none⟩=some (.slice none 0 0))(hz:w.frozen? ⟨B,0,none⟩=false):Sim (b7q B) (a6j B) hp1 w where
 kp:=⟨hkp,fun p hp o k h=>by
  simp only[a6j]at h;rw[if_neg (by have:=hkB p hp;omega)]at h;cases h⟩
 row:=fun k cs h=>by
  have:k=0/\cs=[.slice (.tag 1) 0 []]:=by
   simp only[hp1,hget]at h;split at h
   ·rename_i hb;cases h;exact⟨(Nat.eq_of_beq_eq_true hb).symm,rfl⟩
   split at h
   ·cases h
   cases h
  obtain⟨rfl,rfl⟩:=this;refine⟨B,0,[.slice none 0 0],by simp[b7q],?_,fun i x hx=>?_⟩
  ·refine F8.2 ⟨_,_,rfl,.slice _ 0 [] [] 0 0 none 0 rfl (Nat.le_refl _) (fun h=>zOm) (fun _=>rfl) (fun i x h=>by simp at h) (fun i v x h=>by simp at h) (by simp[b7q]) zSi zSi,⟨rfl,zSi⟩⟩
  match i,hx with
  | 0,hx =>
   cases hx;exact⟨⟨by simp[a6j],hz,_,hc⟩,hc⟩
  | i+1,hx=>simp at hx
 grow:=fun k e cs h=>by
  simp only[hp1,hget]at h;split at h
  ·cases h
  split at h<;>cases h
 tip:=fun k e n h=>by
  have:k=1/\e=0/\n=0:=by
   simp only[hp1,hget]at h;split at h
   ·cases h
   split at h
   ·rename_i hb;cases h;exact⟨(Nat.eq_of_beq_eq_true hb).symm,rfl,rfl⟩
   cases h
  obtain⟨rfl,rfl,rfl⟩:=this;exact⟨none,0,by simp[b7q],Nat.le_refl _,fun _=>rfl,fun _=>rfl,fun a h=>by cases h⟩
 mp:=fun k es h=>by
  simp only[hp1,hget]at h;split at h
  ·cases h
  split at h<;>cases h
 hdom:=fun k n x h=>by
  simp only[b7q]at h;split at h
  ·rename_i hk;obtain⟨rfl,rfl⟩:=hk;exact⟨0,0,rfl,Nat.le_refl _⟩
  cases h
 adom:=fun k x h=>by
  simp only[b7q]at h;split at h
  ·rename_i hk;subst hk;simp[hp1,hget]
  cases h
 ldom:=fun b o k h=>by
  simp only[a6j]at h;split at h
  ·rename_i hb;obtain⟨rfl,rfl⟩:=hb;exact a1K hc
  cases h
theorem b6c {w':World}{lab':Lab}(E:Ext (a6j B) w lab' w'):Wrote B w w' :=
 ⟨E.size,E.os,E.tape,E.output,fun b hb hn=>E.blk b hb (fun o k h=>by
  simp only[a6j]at h;rw[if_neg (fun h=>hn h.1)]at h;cases h)⟩
theorem c86 (hE:a7M env){g1 g2:Nat}{c:V}{H1 H2:Hp}{s:List UInt8}
  (h1:E env (.call g1 [.ptr 0 0,c]) hp1=some (.ret (.tuple []) H1)) (h2:E env (.call g2 [.ptr 0 0]) H1=some (.ret (.str s) H2))
  (hkp:KpW w0) (hkw:w0.heap.size<=w.heap.size) (hB:w0.heap.size<=B) (hk:∀b,b<w0.heap.size->w.heap[b]? = w0.heap[b]?) (hc:w.cell? ⟨B,0,none⟩=some (.slice none 0 0)) (hz:w.frozen? ⟨B,0,none⟩=false) (hx:Rel b6J b3d w0 c x) :
  Calls env.P g1 #[.pointer (some ⟨B,0,none⟩),x] w fun e w1=>e=.returned (.tuple #[])/\Wrote B w w1 /\
   Calls env.P g2 #[.pointer (some ⟨B,0,none⟩)] w1 fun e w2=>e=.returned (.string ⟨⟨s⟩⟩)/\Wrote B w w2:=by
 obtain⟨k1,hk1⟩:=(a3O env).at_ _ _ _ h1;obtain⟨k2,hk2⟩:=(a3O env).at_ _ _ _ h2;have hS:=sim1 (fun p hp=>⟨Nat.lt_of_lt_of_le (hkp p hp).1 hkw,by rw[hk p.1 (hkp p hp).1];exact(hkp p hp).2⟩) (fun p hp=>Nat.lt_of_lt_of_le (hkp p hp).1 hB) hc hz;have hp:Rel (b7q B) (a6j B) w (.ptr 0 0) (.pointer (some ⟨B,0+0,none⟩)):=.ptr 0 0 B 0 none (by simp[b7q]);have hL:L6 (b7q B) (a6j B) w [.ptr 0 0,c] [.pointer (some ⟨B,0,none⟩),x]:=F8.2 ⟨_,_,rfl,hp,F8.2 ⟨_,_,rfl,old_rel hB hk hx,⟨rfl,zSi⟩⟩⟩;have C1:=(b4V hE k1).1.call g1 _ _ _ hk1 (b7q B) (a6j B) w _ ⟨rfl,rfl,trivial⟩ hS hL;refine C1.mono fun e w1 hP=>?_;cases e with
 | returned v =>
  obtain⟨ρ',lab',s1,s2,s3,s4,s5,s6⟩:=hP;have hv:v=.tuple #[]:=by
   cases s4 with
   | tuple _ zs h1 h2 =>
    have:zs=[]:=by simpa using h1
    subst this;rfl
  refine⟨by rw[hv],b6c s2,?_⟩;have ha:ρ'.at_ 0=some (some (B,0),none):=s3.at_ 0 _ zDe (by simp[b7q]);have hp2:Rel ρ' lab' w1 (.ptr 0 0) (.pointer (some ⟨B,0+0,none⟩)):=.ptr 0 0 B 0 none ha;have hL2:L6 ρ' lab' w1 [.ptr 0 0] [.pointer (some ⟨B,0,none⟩)]:=F8.2 ⟨_,_,rfl,hp2,⟨rfl,zSi⟩⟩;have C2:=(b4V hE k2).1.call g2 _ _ _ hk2 ρ' lab' w1 _ s5 s1 hL2;refine C2.mono fun e w2 hP=>?_;cases e with
  | returned v2 =>
   obtain⟨ρ2,lab2,t1,t2,t3,t4,t5,t6⟩:=hP;have hv2:v2=.string ⟨⟨s⟩⟩:=by cases t4;rfl
   exact⟨by rw[hv2],b6c (s2.trans t2)⟩
  | panicked ch=>exact hP.elim
  | outgrown=>exact hP.elim
 | panicked ch=>exact hP.elim
 | outgrown=>exact hP.elim
end Go.Vm
