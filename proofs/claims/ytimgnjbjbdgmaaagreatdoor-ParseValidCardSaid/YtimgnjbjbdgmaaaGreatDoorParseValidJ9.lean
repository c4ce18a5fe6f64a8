/- Texts of ParseValid, joined. -/
import Derived.Test.YtimgnjbjbdgmaaaGreatDoorParseValidJ8
import Derived.Laws.World
import Derived.KernelRfl
import Derived.Shelf.Strings.Count
import Derived.Test.YtimgnjbjbdgmaaaGreatDoorProg
set_option maxRecDepth 100000
set_option maxHeartbeats 20000000
set_option linter.all false
namespace Go.Proofs.YtimgnjbjbdgmaaaGreatDoor.Sc
open Go
variable {c:Code} {fn:Func}
theorem slow_any (b off:Nat) (fv:Value) (w:World) (Q:World->Prop) (g:Nat) (cap:Array Value) (hfv:fv=.func (.func g) cap #[]) (hg:Tryz.prog.funcs[g]? = some fn) (hname:(fn.name == "runtime.NumGoroutine")=false) (hbody:fn.body=some c)
  (h0:w.cell? ⟨b,off,none⟩=some (.int .u32 0)) (h1:w.cell? ⟨b,off+1,none⟩=some (.int .i32 0))
  (f0:w.frozen? ⟨b,off,none⟩=false) (f1:w.frozen? ⟨b,off+1,none⟩=false)
  (hQ:Calls Tryz.prog g cap (w.setCell ⟨b,off+1,none⟩ (.int .i32 1)) fun e w'=>e=.returned (.tuple #[])/\Q w'/\w'.cell? ⟨b,off,none⟩=some (.int .u32 0)/\w'.cell? ⟨b,off+1,none⟩=some (.int .i32 1)/\w'.frozen? ⟨b,off,none⟩=false/\w'.frozen? ⟨b,off+1,none⟩=false) :
  Calls Tryz.prog 225 #[.pointer (some ⟨b,off,none⟩),fv] w fun e w'=>e=.returned (.tuple #[]) /\ ∃w1,Q w1 /\
   w' =(w1.drew.setCell ⟨b,off,none⟩ (.int .u32 1)).setCell ⟨b,off+1,none⟩ (.int .i32 0):=by
 subst hfv;have hl:=run_call_load (P:=Tryz.prog) Tryz.func238 (by kernel_rfl) (by kernel_rfl) (by kernel_rfl) .u32 (by kernel_rfl) (w:=w.setCell ⟨b,off+1,none⟩ (.int .i32 1)) (a:=⟨b,off,none⟩) (x:=0) ((World.cell?_setCell_other _ ⟨b,off+1,none⟩ ⟨b,off,none⟩ _ (by simp)).trans h0);have hnot:∀(x:Bool) (w:World),(Op.unary .not (.bool x)).run Tryz.prog w=.ok (.bool (!x)) w:=fun _ _=>rfl;go_enter_defers Tryz.func225,Tryz.ntmps225;go_wp2_with (go_at_call 239;refine(lock_free ⟨b,off+1,none⟩ _ (by go_simp) (by go_simp)).mono ?_;rintro e w' ⟨rfl,rfl⟩)
 go_wp2;have hrun:∀w,(callFunc g cap).run Tryz.prog w=.ok (.enter g cap) w:=fun w=>by
  have h1:fn.name ≠ "runtime.NumGoroutine":=by simpa using hname
  simp[callFunc,hg,h1,hbody]
 rw[hrun,Oper.upon_enter];refine hQ.mono ?_;rintro e w' ⟨rfl,hq,c0,c1,z0,z1⟩;go_wp2;refine leaves_cons (f:=241) (args:=#[.pointer (some ⟨b,off,none⟩),.bool true]) (by simp) (by simp[go_sem]) ?_;refine(b9x ⟨b,off,none⟩ (.int .u32 0) .returning _ c0 z0).mono ?_;rintro e u' w'' ⟨rfl,rfl,rfl⟩;refine leaves_cons (f:=240) (args:=#[.pointer (some ⟨b,off+1,none⟩)]) (by simp[settle]) (by simp[go_sem]) ?_;refine(unlock_deferred ⟨b,off+1,none⟩ _ _ ?_ (by simp[z1])).mono ?_
 ·refine(World.cell?_setCell_other _ ⟨b,off,none⟩ ⟨b,off+1,none⟩ _ (by simp)).trans ?_;rw[World.cell?_drew];exact c1
 rintro e u' w'' ⟨rfl,rfl,rfl⟩;simp[Leaves,settle,results,Tryz.results225];exact⟨w',hq,rfl⟩
theorem do_any (b off:Nat) (fv:Value) (w:World) (Q:World->Prop) (g:Nat) (cap:Array Value) (hfv:fv=.func (.func g) cap #[]) (hg:Tryz.prog.funcs[g]? = some fn) (hname:(fn.name == "runtime.NumGoroutine")=false) (hbody:fn.body=some c)
  (h0:w.cell? ⟨b,off,none⟩=some (.int .u32 0)) (h1:w.cell? ⟨b,off+1,none⟩=some (.int .i32 0))
  (f0:w.frozen? ⟨b,off,none⟩=false) (f1:w.frozen? ⟨b,off+1,none⟩=false)
  (hQ:Calls Tryz.prog g cap (w.setCell ⟨b,off+1,none⟩ (.int .i32 1)) fun e w'=>e=.returned (.tuple #[])/\Q w'/\w'.cell? ⟨b,off,none⟩=some (.int .u32 0)/\w'.cell? ⟨b,off+1,none⟩=some (.int .i32 1)/\w'.frozen? ⟨b,off,none⟩=false/\w'.frozen? ⟨b,off+1,none⟩=false) :
  Calls Tryz.prog 212 #[.pointer (some ⟨b,off,none⟩),fv] w fun e w'=>e=.returned (.tuple #[]) /\ ∃w1,Q w1 /\
   w' =(w1.drew.setCell ⟨b,off,none⟩ (.int .u32 1)).setCell ⟨b,off+1,none⟩ (.int .i32 0):=by
 have hl:=run_call_load (P:=Tryz.prog) Tryz.func238 (by kernel_rfl) (by kernel_rfl) (by kernel_rfl) .u32 (by kernel_rfl) h0;have hnot:∀(x:Bool) (w:World),(Op.unary .not (.bool x)).run Tryz.prog w=.ok (.bool (!x)) w:=fun _ _=>rfl;go_enter Tryz.func212,Tryz.ntmps212;have hS:=slow_any b off fv w Q g cap hfv hg hname hbody h0 h1 f0 f1 hQ;clear hfv hg hname hbody hQ;go_wp2_with (first |(go_at_call 225;refine hS.mono ?_;rintro e w' ⟨rfl,w1,hw1,rfl⟩) |(go_at_call 224;go_in))
 go_end0;exact⟨rfl,w1,hw1,rfl⟩
end Go.Proofs.YtimgnjbjbdgmaaaGreatDoor.Sc
namespace Go.Vm
open Go
variable {H':Hp} {n:Int} {k:IntKind} {b off p r t:Nat} {v:V} {u:Value}
variable {P:Program} {T:List (Nat×Ty)} {ρ:Rho} {lab:Lab} {H:Hp} {w:World}
theorem Rel.drew {x:Value}(h:Rel ρ lab w v x):Rel ρ lab w.drew v x:=by
 have E:Ext lab w lab w.drew:=⟨Nat.le_refl _,rfl,rfl,rfl,fun _ _ _ h=>h,fun _ _=>.rfl,fun _ _ _ _=>⟨rfl,rfl⟩,fun _ _ _=>rfl⟩
 exact h.ext E (.refl _)
theorem b8f:Ext lab w lab w.drew:=⟨Nat.le_refl _,rfl,rfl,rfl,fun _ _ _ h=>h,fun _ _=>.rfl,fun _ _ _ _=>⟨rfl,rfl⟩,fun _ _ _=>rfl⟩
theorem sim_drew (hS:Sim ρ lab H w):Sim ρ lab H w.drew:=by
 refine Sim.mk' (hS.kp.ext b8f) (fun k o hk=>?_) hS.hdom hS.adom hS.ldom;have h1:a8g ρ lab w k o:=by
  cases o with
  | row cs=>exact hS.row k cs hk
  | grow e cs=>exact hS.grow k e cs hk
  | tip e n=>exact hS.tip k e n hk
  | mp es=>exact hS.mp k es hk
  | gone=>trivial
 exact h1.carry b8f (.refl _) (fun b p hc=>⟨⟨hc.lab,hc.free,hc.cell⟩,rfl⟩) (fun _ _ _ hq=>⟨hq.lab,hq.blk⟩)
theorem c2p (hz:∀w,(sizeOf t).run P w=.ok 1 w)(hc:w.cell? ⟨b,p,none⟩=some u)(hf:w.frozen? ⟨b,p,none⟩=false) :
  (Instr.storeAt t (.pointer (some ⟨b,p,none⟩)) (.int k n)).run P w=.ok () (w.setCell ⟨b,p,none⟩ (.int k n)):=by
 have:=run_storeCells_cells (P:=P) b p [.int k n] 0 w (fun j hj=>by
  have:j=0:=by simpa using hj
  subst this;simp[hc]) (fun j hj=>by
  have:j=0:=by simpa using hj
  subst this;simpa using hf) (fun j hj=>by
  have:j=.int k n:=by simpa using hj
  subst this;rfl)
 have hs:(Value.int k n).cells = #[.int k n]:=rfl;simp only[Instr.storeAt,Instr.sureAddr,storeVar,Sem.run_bind,Sem.run_pure,Result.andThen_ok,hz,hs,List.size_toArray,List.length_singleton,ne_eq,not_true_eq_false,if_false];refine Eq.trans ?_ this;simp
theorem b4Z (hT:TOk P T)(hS:Sim ρ lab H w){y:Ty}(hy:O7 t T=some y)(h1:y.size=1)
  (hx:Rel ρ lab w (.ptr r off) (.pointer (some ⟨b,p,none⟩))) (hc:w.cell? ⟨b,p,none⟩=some u) (hf:w.frozen? ⟨b,p,none⟩=false) (h:a7e T t (.ptr r off) (.int k n) H=some H') :
  Sim ρ lab H' (w.setCell ⟨b,p,none⟩ (.int k n))/\Ext lab w lab (w.setCell ⟨b,p,none⟩ (.int k n)):=by
 obtain⟨w',g1,g2,g3⟩:=c0W hT hS hx (.int k n) h;have hz:∀w,(sizeOf t).run P w=.ok 1 w:=fun w=>by
  have:=a1H (hT t y hy) w;rwa [h1]at this
 rw[c2p hz hc hf]at g1;cases g1;exact⟨g2,g3⟩
theorem b2T (hc:Canon 0 H)(h:a7e T t (.ptr r off) v H=some H'):Canon 0 H'/\H'.length=H.length:=by
 unfold a7e at h;split at h
 ·rename_i y r off hy he;cases he;split at h
  ·split at h
   ·rename_i cs hg;unfold gd at h;split at h
    ·cases h;exact b1M hc (by rw[hg];simp)
    cases h
   ·rename_i e cs hg;split at h
    ·unfold gd at h;split at h
     ·cases h;exact b1M hc (by rw[hg];simp)
     cases h
    cases h
   cases h
  cases h
 cases h
end Go.Vm
namespace Go.Proofs.YtimgnjbjbdgmaaaGreatDoor.Sc
open Go Go.Vm
def OT:List (Nat×Ty):=[(21,⟨.int .i32,1,4,[.int .i32 0]⟩),(170,⟨.int .u32,1,4,[.int .u32 0]⟩)]
theorem otOk:TOk Tryz.prog OT:=b0F zKr
def doPre:List V->Hp->Option (Nat×List V×Hp):=fun args H=>match args with
 | [.ptr r off,.func (.func g) cap []]=>match hget r H with
  | some (.row cs)=>match cs[off]?,cs[off+1]?,a7e OT 21 (.ptr r (off+1)) (.int .i32 1) H with
   | some (.int .u32 0),some (.int .i32 0),some H'=>gd (Nat.beq g 213) (some (g,cap,H'))
   | _,_,_=>none
  | _=>none
 | _=>none
def c5u:List V->Hp->Out->Option Out:=fun args H o=>match args,o with
 | [.ptr r off,.func (.func g) cap []],.ret (.tuple []) H1=>match hget r H1 with
  | some (.row cs)=>match cs[off]?,cs[off+1]?,a7e OT 170 (.ptr r off) (.int .u32 1) H1 with
   | some (.int .u32 0),some (.int .i32 1),some H2=>match a7e OT 21 (.ptr r (off+1)) (.int .i32 0) H2 with
    | some H3=>some (.ret (.tuple []) H3)
    | none=>none
   | _,_,_=>none
  | _=>none
 | _,_=>none
theorem do_via:ViaOk Tryz.prog 212 doPre c5u:=by
 refine⟨fun args H g' l H' o out hp ho ρ lab w xs hc hS hx hcall=>?_,⟨_,_,Tryz.func212,rfl,rfl⟩⟩;unfold doPre at hp;split at hp
 ·rename_i args0 r off g cap;split at hp
  ·rename_i cs hg;split at hp
   ·rename_i e0 e1 H1 c0 c1 hst;unfold gd at hp;split at hp
    ·rename_i hb;cases hp;have hb:=Nat.eq_of_beq_eq_true hb;obtain⟨b,o1,zs,a1,a2,a3⟩:=hS.row r cs hg;obtain⟨x1,xr0,rfl,r1,r2⟩:=F8.1 hx;obtain⟨x2,xr,rfl,r3,r4⟩:=F8.1 r2;have:xr=[]:=by have:=r4.1;simpa using this
     subst this;cases r3 with
     | func _ _ _ us ys u1 u2 u3 u4 =>
     have:ys=[]:=by simpa using u2
     subst this;have hp1:x1=.pointer (some ⟨b,o1+off,none⟩):=by
      cases r1 with
      | ptr _ _ b' o' c' h=>rw[a1]at h;cases h;rfl
     subst hp1;have cell:∀{ρ:Rho} {lab:Lab} {w:World} {H:Hp} {cs:List V} {b o1 i:Nat} {k:IntKind} {n:Int},Sim ρ lab H w->hget r H=some (.row cs)->ρ.at_ r=some (some (b,o1),none)->cs[i]? = some (.int k n)->w.cell? ⟨b,o1+i,none⟩=some (.int k n)/\w.frozen? ⟨b,o1+i,none⟩=false:=by
      intro ρ lab w H cs b o1 i k n hS hg ha hi;obtain⟨b2,o2,zs,a1,a2,a3⟩:=hS.row r cs hg;rw[ha]at a1;cases a1;have hl:i<zs.length:=by
       rw[a2.1];rcases Nat.lt_or_ge i cs.length with h|h
       ·exact h
       rw[List.getElem?_eq_none h]at hi;cases hi
      have hz:zs[i]? = some zs[i]:=by simp[hl]
      have hr:=a2.2 i _ _ hi hz;obtain⟨q1,q2⟩:=a3 i _ hz;have:zs[i]=.int k n:=by
       generalize zs[i]=z at hr;cases hr;rfl
      rw[this]at q2;exact⟨q2,q1.free⟩
     obtain⟨m0,f0⟩:=cell hS hg a1 c0;obtain⟨m1,f1⟩:=cell hS hg a1 c1;obtain⟨t1,t2⟩:=b4Z otOk hS (y:=⟨.int .i32,1,4,[.int .i32 0]⟩) zKr rfl (.ptr r (off+1) b o1 none a1) m1 f1 hst;obtain⟨cn1,ln1⟩:=b2T hc hst;have cap':L6 ρ lab (w.setCell ⟨b,o1+(off+1),none⟩ (.int .i32 1)) _ us:=L6.ext t2 (.refl _) ⟨u1,u3⟩;have hK:=hcall ρ lab _ us cn1 t1 cap';unfold c5u at ho;split at ho
     ·rename_i r' off' g' cap2 H2 hargs;cases hargs;split at ho
      ·rename_i cs1 hg1;split at ho
       ·rename_i e2 e3 H3 d0 d1 hst2;split at ho
        ·rename_i H4 hst3;cases ho;have hD:=fun hq=>do_any b (o1+off) (.func (.func 213) us.toArray #[]) w (fun w'=>∃ρ' lab',Sim ρ' lab' H2 w'/\Ext lab (w.setCell ⟨b,o1+(off+1),none⟩ (.int .i32 1)) lab' w'/\a4B H'.length ρ ρ'/\Canon 0 H2/\H'.length<=H2.length) 213 us.toArray rfl Tryz.func213 rfl rfl m0 m1 f0 f1 hq;subst hb;refine(hD ?_).mono ?_
         ·refine hK.mono ?_;intro e w' hP;cases e with
          | returned x =>
           obtain⟨ρ',lab',s1,s2,s3,s4,s5,s6⟩:=hP;have hx0:x=.tuple #[]:=by
            cases s4 with
            | tuple _ zs h1 h2 =>
             have:zs=[]:=by simpa using h1
             subst this;rfl
           have hr:r<H'.length:=by
            have:=a5L hc r _ hg;omega
           have ha1:=s3.at_ r _ hr a1;obtain⟨n0,k0⟩:=cell s1 hg1 ha1 d0;obtain⟨n1,k1⟩:=cell s1 hg1 ha1 d1;exact⟨by rw[hx0],⟨ρ',lab',s1,s2,s3,s5,s6⟩,n0,n1,k0,k1⟩
          | _=>exact hP.elim
         rintro e w' ⟨rfl,w1,⟨ρ',lab',s1,s2,s3,s4,s5⟩,rfl⟩;have hr:r<H'.length:=by
          have:=a5L hc r _ hg;omega
         have ha1:=s3.at_ r _ hr a1;obtain⟨n0,k0⟩:=cell s1 hg1 ha1 d0;obtain⟨p1,p2⟩:=b4Z otOk (sim_drew s1) (y:=⟨.int .u32,1,4,[.int .u32 0]⟩) zKr rfl (.ptr r off b o1 none ha1) n0 k0 hst2;obtain⟨cn2,ln2⟩:=b2T s4 hst2;obtain⟨n1,k1⟩:=cell s1 hg1 ha1 d1;have hne:(⟨b,o1+off,none⟩:Addr)≠⟨b,o1+(off+1),none⟩:=zSi;have q1:(w1.drew.setCell ⟨b,o1+off,none⟩ (.int .u32 1)).cell? ⟨b,o1+(off+1),none⟩=some (.int .i32 1):=(World.cell?_setCell_other _ _ _ _ hne).trans n1;have q2:(w1.drew.setCell ⟨b,o1+off,none⟩ (.int .u32 1)).frozen? ⟨b,o1+(off+1),none⟩=false:=by simp[k1]
         obtain⟨p3,p4⟩:=b4Z otOk p1 (y:=⟨.int .i32,1,4,[.int .i32 0]⟩) zKr rfl (.ptr r (off+1) b o1 none ha1) q1 q2 hst3;obtain⟨cn3,ln3⟩:=b2T cn2 hst3;refine⟨ρ',lab',p3,t2.trans (s2.trans (b8f.trans (p2.trans p4))),?_,.tuple [] [] rfl zSi,cn3,zOm⟩;rw[<-ln1];exact s3
        cases ho
       cases ho
      cases ho
     cases ho
    cases hp
   cases hp
  cases hp
 cases hp
end Go.Proofs.YtimgnjbjbdgmaaaGreatDoor.Sc
namespace Go.Proofs
open Go.Shelf
def Tryz.c3A:Go.Shelf.Ren:=⟨fun|138=>313|195=>314|218=>315|143=>316|219=>317|217=>318|225=>319|224=>320|267=>321|266=>322|314=>323|n=>n,fun|9=>9|3=>3|4=>4|5=>5|0=>0|46=>199|146=>289|51=>170|n=>n,fun|1=>0|n=>n⟩
theorem Tryz.lays138:Go.Proofs.Lays.n138 Tryz.prog Tryz.c3A:={
 mixed:=by kernel_rfl
 f138:=Tryz.func313.trans (congrArg some (by kernel_rfl))
 f143:=Tryz.func316.trans (congrArg some (by kernel_rfl))
 f195:=Tryz.func314.trans (congrArg some (by kernel_rfl))
 f217:=Tryz.func318.trans (congrArg some (by kernel_rfl))
 f218:=Tryz.func315.trans (congrArg some (by kernel_rfl))
 f219:=Tryz.func317.trans (congrArg some (by kernel_rfl))
 f224:=Tryz.func320.trans (congrArg some (by kernel_rfl))
 f225:=Tryz.func319.trans (congrArg some (by kernel_rfl))
 f266:=Tryz.func322.trans (congrArg some (by kernel_rfl))
 f267:=Tryz.func321.trans (congrArg some (by kernel_rfl))
 f314:=Tryz.func323.trans (congrArg some (by kernel_rfl))
 t0:=Tryz.underlying0
 a0:=Tryz.isAgg0
 z0:=Tryz.sizeOf0
 v0:=Tryz.zeroValue0
 t3:=Tryz.underlying3
 a3:=Tryz.isAgg3
 z3:=Tryz.sizeOf3
 v3:=Tryz.zeroValue3
 t4:=Tryz.underlying4
 a4:=Tryz.isAgg4
 z4:=Tryz.sizeOf4
 v4:=Tryz.zeroValue4
 t5:=Tryz.underlying5
 a5:=Tryz.isAgg5
 z5:=Tryz.sizeOf5
 v5:=Tryz.zeroValue5
 t9:=Tryz.underlying9
 a9:=Tryz.isAgg9
 z9:=Tryz.sizeOf9
 v9:=Tryz.zeroValue9
 t46:=Tryz.underlying199
 a46:=Tryz.isAgg199
 z46:=Tryz.sizeOf199
 v46:=Tryz.zeroValue199
 t51:=Tryz.underlying170
 a51:=Tryz.isAgg170
 z51:=Tryz.sizeOf170
 v51:=Tryz.zeroValue170
 t146:=Tryz.underlying289
 a146:=Tryz.isAgg289
 z146:=Tryz.sizeOf289
 v146:=Tryz.zeroValue289
 g1:=by kernel_rfl}
open Go.RowKit Go.Lib in
theorem Tryz.strings_Count_one (s:ByteArray)(c:UInt8)(w:World) :
  Calls Tryz.prog 313 #[.string s,.string ⟨#[c]⟩] w fun e w'=>e=.returned (.int .i64 (Lib.countByte s.data.toList c))/\w'=w:=Any.strings_Count_one Tryz.lays138 s c w
end Go.Proofs
namespace Go.Proofs.YtimgnjbjbdgmaaaGreatDoor.Rp
open Go Go.Vm
def T:List (Nat×Ty):=[(1,⟨.func,1,8,[.nilFunc]⟩),(3,⟨.int .i64,1,8,[.int .i64 0]⟩),(4,⟨.bool,1,1,[.bool false]⟩),(5,⟨.int .u8,1,1,[.int .u8 0]⟩),(9,⟨.string,1,16,[.str []]⟩),(21,⟨.int .i32,1,4,[.int .i32 0]⟩),(53,⟨.slice 5,1,24,[.slice .nil 0 []]⟩),(57,⟨.slice 9,1,24,[.slice .nil 0 []]⟩),(162,⟨.ptr 182,1,8,[.nilptr]⟩),(168,⟨.blk [],0,0,[]⟩),(169,⟨.blk [],0,0,[]⟩),(170,⟨.int .u32,1,4,[.int .u32 0]⟩),(172,⟨.blk [(169,0),(170,0)],1,4,[.int .u32 0]⟩),(174,⟨.blk [(21,0),(170,1)],2,8,[.int .i32 0,.int .u32 0]⟩),(176,⟨.blk [(168,0),(174,0)],2,8,[.int .i32 0,.int .u32 0]⟩),(178,⟨.blk [(168,0),(172,0),(176,1)],3,12,[.int .u32 0,.int .i32 0,.int .u32 0]⟩),(180,⟨.iface,1,16,[.nilIface]⟩),(182,⟨.blk [(178,0),(180,3),(57,4)],5,56,[.int .u32 0,.int .i32 0,.int .u32 0,.nilIface,.slice .nil 0 []]⟩),(206,⟨.ptr 230,1,8,[.nilptr]⟩),(208,⟨.ptr 236,1,8,[.nilptr]⟩),(211,⟨.array 256 5,256,256,List.replicate 256 (.int .u8 0)⟩),(212,⟨.ptr 211,1,8,[.nilptr]⟩),(213,⟨.array 256 53,256,6144,List.replicate 256 (.slice .nil 0 [])⟩),(215,⟨.blk [(213,0),(57,256)],257,6168,List.replicate 256 (.slice .nil 0 [])++[.slice .nil 0 []]⟩),(216,⟨.ptr 215,1,8,[.nilptr]⟩)]
theorem tys:tysB Tryz.prog T=true:=zKr
theorem mixed:Tryz.prog.follows .mixedOrders=true:=zKr
def keep:Nat->Nat->List Nat|226,6=>[3,4,5]|226,15=>[3,6,61]|226,20=>[3,6,8]|226,28=>[3,11,12]|311,5=>[0,1,5,6,30,31,32]|311,13=>[0,1,5,6,10]|311,24=>[0,1,12,13,14]|311,100032=>[12]|_,_=>[]
def c1j:List V->Hp->Option Out:=fun args H=>match args with
 | [.str s,.str [c]]=>some (.ret (.int .i64 ((s.count c:Nat):Int)) H)
 | _=>none
theorem c8f:a7G Tryz.prog 313 c1j:=by
 refine⟨fun args H out h ρ lab w xs hc hS hx=>?_,⟨_,_,Tryz.func313,rfl,rfl⟩⟩;unfold c1j at h;split at h
 ·rename_i s c;cases h;obtain⟨x1,r1,rfl,h1,h2⟩:=F8.1 hx;obtain⟨x2,r2,rfl,h3,h4⟩:=F8.1 h2;have:r2=[]:=by have:=h4.1;simpa using this
  subst this;cases h1;cases h3;refine(Tryz.strings_Count_one ⟨⟨s⟩⟩ c w).mono fun e w' ⟨he,hw⟩=>?_;subst he;subst hw;exact⟨ρ,lab,hS,Ext.refl _ _,⟨fun _ _ _ h=>h,fun _ _ _ _ h=>h⟩,.int _ _,hc,Nat.le_refl _⟩
 cases h
def okL:List Nat:=[186,202,203,213,226,311]
def b2g:List Nat:=[313,186]
def b29:Nat->Option Hand|212=>some (.via Sc.doPre Sc.c5u)|313=>some (.plain c1j)|_=>none
noncomputable def env:Env:={P:=Tryz.prog,T:=T,keep:=keep,byref:=fun _ _=>none,meth:=fun t s=>match t,s with|216,"Replace"=>some 311|_,_=>none,tags:=fun _=>false,argTags:=fun _=>false,quiet:=fun g=>has g b2g,loose:=fun _=>false,ok:=fun g=>has g okL,cut:=fun f c=>Nat.beq f 311&&Nat.beq c 32,ice:=fun f l=>match f,l with|311,100032=>some 12|_,_=>none,intr:=b29}
theorem codes:b2U env okL=true:=zKr
theorem methOk:a9V env:=by
 intro t name g h;simp only[env]at h;split at h
 ·cases h;exact(by kernel_rfl:methB Tryz.prog 216 "Replace" 311=true)
 cases h
theorem b5j:a7M env:=⟨methOk,b0F tys,mixed,a9P (fun _ h=>h) codes,(fun g h hg=>by simp only[env,b29]at hg;split at hg<;>first |(cases hg;done) |(cases hg;exact c8f)),(fun g pre post hg=>by simp only[env,b29]at hg;split at hg<;>first |(cases hg;done) |(cases hg;exact Sc.do_via))⟩
def pairs:List V:=[.str [10],.str [92,110],.str [9],.str [92,116],.str [92],.str [92,92],.str [34],.str [92,34]]
def two (b:UInt8):List V:=[.int .u8 92,.int .u8 b.toNat]
def cell (b:Nat):V:=match b with
 | 10=>.slice .sealed 2 [.int .u8 92,.int .u8 110]
 | 9=>.slice .sealed 2 [.int .u8 92,.int .u8 116]
 | 92=>.slice .sealed 2 [.int .u8 92,.int .u8 92]
 | 34=>.slice .sealed 2 [.int .u8 92,.int .u8 34]
 | _=>.slice .nil 0 []
def RR:List V:=(List.range 256).map cell++[.rslice 1 0 4 true]
def TR:List V:=[.str [34],.str [92],.str [9],.str [10]]
theorem nr_E:E env (.call 202 [.slice .sealed 8 pairs]) []=some (.ret (.ptr 0 0) [(0,.row [.int .u32 0,.int .i32 0,.int .u32 0,.nilIface,.slice (.tag 1) 8 pairs]),(1,.tip 1 8)]):=(a3O env).le 9 _ _ _ zKr
theorem bu_E:E env (.call 213 [.ptr 0 0]) [(0,.row [.int .u32 0,.int .i32 1,.int .u32 0,.nilIface,.slice (.tag 1) 8 pairs]),(1,.tip 1 8)]=some (.ret (.tuple []) [(0,.row [.int .u32 0,.int .i32 1,.int .u32 0,.iface 216 (.ptr 2 0),.slice .nil 0 []]),(1,.tip 1 8),(2,.row ((List.range 256).map cell++[.rslice 3 0 4 true])),(3,.grow 1 TR)]):=(a3O env).le 40 _ _ _ zKr
end Go.Proofs.YtimgnjbjbdgmaaaGreatDoor.Rp
