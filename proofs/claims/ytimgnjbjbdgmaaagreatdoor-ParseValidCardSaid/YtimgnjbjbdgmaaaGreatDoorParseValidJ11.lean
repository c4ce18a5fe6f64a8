/- Texts of ParseValid, joined. -/
import Derived.Test.YtimgnjbjbdgmaaaGreatDoorParseValidJ10
import Derived.KernelRfl
import Derived.Test.YtimgnjbjbdgmaaaGreatDoorProg
import Derived.Tactics
import Derived.Tactics2
import Derived.Defers
import Derived.Recover
import Derived.Laws.Pointers
set_option maxRecDepth 100000
set_option maxHeartbeats 20000000
set_option linter.all false
namespace Go.Proofs.YtimgnjbjbdgmaaaGreatDoor
open Go Go.Vm
variable {w:World}
theorem cell_lt {b o:Nat}{x:Value}(h:w.cell? ⟨b,o,none⟩=some x):b<w.heap.size:=a1K h
theorem c5o (b o:Nat)(x y fa fb:Int)(u:Value)(older:List PanicEntry)(w:World)(h0:w.cell? ⟨b,o,none⟩=some (.int .i64 x))(h1:w.cell? ⟨b,o+1,none⟩=some (.int .i64 y))(z0:w.frozen? ⟨b,o,none⟩=false)(z1:w.frozen? ⟨b,o+1,none⟩=false) :
  CallsD Tryz.prog 42 #[.pointer (some ⟨b,o,none⟩)] (.panicking ({v:=.iface 84 (.agg #[.int .i64 fa,.int .i64 fb]),recovered:=false}::older)) w fun e u' w' =>
   e=.returned (.tuple #[])/\u'=.panicking ({v:=.iface 84 (.agg #[.int .i64 fa,.int .i64 fb]),recovered:=true}::older) /\
   w' =((w.setCell ⟨b,o,none⟩ (.int .i64 fa)).setCell ⟨b,o+1,none⟩ (.int .i64 fb)).alloc (.cells #[.int .i64 fa,.int .i64 fb] 84):=by
 refine callsD_of_wpS Tryz.func42 rfl fun c₀ cs hu=>?_;apply wpS_seq;apply wpS_region;simp[wpOpsS,go_sem,recoverD,hu,Tryz.ntmps42,Exit.thenS];refine wpS_of_wp ?_;go_wp2;have hta:(Instr.typeAssert (.iface 84 (.agg #[.int .i64 fa,.int .i64 fb])) 20 84 true).run Tryz.prog w=.ok (.tuple #[.agg #[.int .i64 fa,.int .i64 fb],.bool true]) w:=by
  simp only[Instr.typeAssert,Sem.run_bind,run_underlying Tryz.underlying84,Result.andThen_ok];simp
 rw[hta];simp only[Result.andThen];rw[Oper.upon_value];have hb:=cell_lt h0;have G:a15 w (w.alloc (.cells #[.int .i64 fa,.int .i64 fb] 84)):=a15.push w _;have a0:=(G.cell hb o).trans h0;have a1:=(G.cell hb (o+1)).trans h1;have y0:=(G.frozen hb o).trans z0;have y1:=(G.frozen hb (o+1)).trans z1;unfold cellAt at a0 a1;have a2:((w.alloc (.cells #[.int .i64 fa,.int .i64 fb] 84)).setCell ⟨b,o,none⟩ (.int .i64 fa)).cell? ⟨b,o+1,none⟩=some (.int .i64 y):=(World.cell?_setCell_other _ _ _ _ zSi).trans a1;have y2:((w.alloc (.cells #[.int .i64 fa,.int .i64 fb] 84)).setCell ⟨b,o,none⟩ (.int .i64 fa)).frozen? ⟨b,o+1,none⟩=false:=by simp[y1]
 go_wp2;obtain⟨a₀,b₀,e₀,d₀,f₀,g₀,h₀⟩:=c₀;subst hu;simp[bodyPostS,results,Tryz.results42]
theorem c5n (p:Addr)(w:World) :
  CallsD Tryz.prog 42 #[.pointer (some p)] .returning w fun e u' w'=>e=.returned (.tuple #[])/\u'=.returning/\w'=w:=by
 refine callsD_of_wpS Tryz.func42 rfl fun c₀ cs hu=>?_;apply wpS_seq;apply wpS_region;simp[wpOpsS,go_sem,recoverD,hu,Tryz.ntmps42,Exit.thenS];refine wpS_of_wp ?_;go_wp2;cases c₀;simp_all [bodyPostS,results,Tryz.results42]
def gClo:List Nat:=[23,2,3]
def gPre:List V->Hp->Option (Nat×List V×Hp):=fun args H=>match args with
 | [.ptr _ _,.func (.func g) a c]=>gd (has g gClo) (some (g,a++c,b2z H))
 | _=>none
def c0j:List V->Hp->Out->Option Out:=fun _ _ o=>match o with
 | .ret (.tuple []) H1=>some (.ret (.agg [.int .i64 0,.int .i64 0]) H1)
 | .pan (.iface t (.agg [.int .i64 a,.int .i64 b])) H1=>gd (Nat.beq t 84) (some (.ret (.agg [.int .i64 a,.int .i64 b]) H1))
 | _=>none
theorem c8e {g:Nat} (h:has g gClo=true):∃fn c,Tryz.prog.funcs[g]? = some fn/\(fn.name == "runtime.NumGoroutine")=false/\fn.body=some c:=by
 have:g=23∨g=2∨g=3:=by
  simp only[has,gClo]at h;split at h
  ·exact .inl (Nat.eq_of_beq_eq_true zAs).symm
  split at h
  ·exact .inr (.inl (Nat.eq_of_beq_eq_true zAs).symm)
  split at h
  ·exact .inr (.inr (Nat.eq_of_beq_eq_true zAs).symm)
  cases h
 rcases this with rfl|rfl|rfl
 ·exact⟨_,_,Tryz.func23,rfl,rfl⟩
 ·exact⟨_,_,Tryz.func2,rfl,rfl⟩
 exact⟨_,_,Tryz.func3,rfl,rfl⟩
theorem agg2 {ρ:Rho}{lab:Lab}(a b:Int):∀(i:Nat) (v:V) (x:Value),[V.int .i64 a,.int .i64 b][i]? = some v->[Value.int .i64 a,.int .i64 b][i]? = some x->Rel ρ lab w v x
 | 0,_,_,h,g=>by cases h;cases g;exact .int _ _
 | 1,_,_,h,g=>by cases h;cases g;exact .int _ _
 | i+2,_,_,h,g=>by simp at h
theorem b0s:ViaOk Tryz.prog 22 gPre c0j:=by
 refine⟨fun args H g' l H' o out hp ho ρ lab w xs hc hS hx hcall=>?_,⟨_,_,Tryz.func22,rfl,rfl⟩⟩;unfold gPre at hp;split at hp
 ·rename_i args0 r off g0 a c;obtain⟨hg,hp⟩:=O3 hp;cases hp;obtain⟨x1,xr0,rfl,r1,r2⟩:=F8.1 hx;obtain⟨x2,xr,rfl,r3,r4⟩:=F8.1 r2;have:xr=[]:=by have:=r4.1;simpa using this
  subst this;cases r3 with
  | func _ _ _ us ys u1 u2 u3 u4 =>
  obtain⟨fn,cd,k1,k2,k3⟩:=c8e hg;have hrun:∀args w,(callFunc g' args).run Tryz.prog w=.ok (.enter g' args) w:=fun args w=>by
   have h1:fn.name ≠ "runtime.NumGoroutine":=by simpa using k2
   simp[callFunc,k1,h1,k3]
  have G:a15 w (w.alloc (.cells #[.int .i64 0,.int .i64 0] 42)):=a15.push w _;have hB:w.heap.size<(w.alloc (.cells #[.int .i64 0,.int .i64 0] 42)).heap.size:=by
   show w.heap.size<(w.heap.push _).size;rw[Array.size_push];omega
  have hS1:=(hS.mine G hB).b2z;have hl:L6 ρ lab w (a++c) (us++ys):=L6.append ⟨u1,u3⟩ ⟨u2,u4⟩;have hl1:=hl.carry (mineF G);have hK:=hcall ρ _ _ (us++ys) (b6Y _ _ hc) hS1 hl1;have C0:(w.alloc (.cells #[.int .i64 0,.int .i64 0] 42)).cell? ⟨w.heap.size,0,none⟩=some (.int .i64 0):=zSi;have C1:(w.alloc (.cells #[.int .i64 0,.int .i64 0] 42)).cell? ⟨w.heap.size,1,none⟩=some (.int .i64 0):=zSi;have Z0:(w.alloc (.cells #[.int .i64 0,.int .i64 0] 42)).frozen? ⟨w.heap.size,0,none⟩=false:=zSi;have Z1:(w.alloc (.cells #[.int .i64 0,.int .i64 0] 42)).frozen? ⟨w.heap.size,1,none⟩=false:=zSi;have hmf:∀(fn:Fn) (first cap:Array Value) (w:World),(Instr.makeFunc fn first cap).run Tryz.prog w=.ok (.func fn first cap) w:=fun _ _ _ _=>rfl;clear hcall hx r1 r2 r4 u3 u4 hl hl1 hS1;generalize hw1:w.alloc (.cells #[.int .i64 0,.int .i64 0] 42)=w1 at *;go_enter_defers Tryz.func22,Tryz.ntmps22;go_wp2;refine hK.mono ?_;intro e w2 hP;unfold c0j at ho;split at ho
  ·rename_i H1;cases ho;cases e with
   | returned x =>
    obtain⟨ρ',lab',s1,s2,s3,s4,s5,s6⟩:=hP;have hx0:x=.tuple #[]:=by
     cases s4 with
     | tuple _ zs h1 h2 =>
      have:zs=[]:=by simpa using h1
      subst this;rfl
    subst hx0;obtain⟨d0,e0⟩:=b3Z s2 hB 0;obtain⟨d1,e1⟩:=b3Z s2 hB 1;have d0:=d0.trans C0;have d1:=d1.trans C1;have E:=Ext.left hS G hB s2 (Wrote.refl _ w2);have S:=s1.left (fun p hp=>(hS.kp.1 p hp).1) s2 (Wrote.refl _ w2);unfold cellAt at d0 d1;go_wp2;refine leaves_cons (f:=42) (args:=#[.pointer (some ⟨w.heap.size,0,none⟩)]) zSi (by simp[go_sem]) ?_;refine(c5n ⟨w.heap.size,0,none⟩ _).mono ?_;rintro e u' w'' ⟨rfl,rfl,rfl⟩;simp[Leaves,settle,results,Tryz.results22,go_sem,d0,d1];rw[b2r]at s3 s6;exact⟨ρ',_,S,E,s3,.agg _ [.int .i64 0,.int .i64 0] rfl (agg2 _ _),s5,s6⟩
   | panicked ch=>exact hP.elim
   | outgrown=>exact hP.elim
  ·rename_i t fa fb H1;obtain⟨ht,ho⟩:=O3 ho;cases ho;have ht:=Nat.eq_of_beq_eq_true ht;subst ht;cases e with
   | returned x=>exact hP.elim
   | panicked ch =>
    obtain⟨x,rfl,ρ',lab',s1,s2,s3,s4,s5,s6⟩:=hP;obtain⟨xv,rfl,s7⟩:∃xv,x=.iface 84 xv/\xv=.agg #[.int .i64 fa,.int .i64 fb]:=by
     cases s4 with
     | iface _ _ xv h =>
      refine⟨xv,rfl,?_⟩;cases h with
      | agg _ zs h1 h2 =>
       match zs,h1,h2 with
       | [z0,z1],_,h2 =>
        have q0:=h2 0 _ z0 rfl rfl;have q1:=h2 1 _ z1 rfl rfl;cases q0;cases q1;rfl
    subst s7;obtain⟨d0,e0⟩:=b3Z s2 hB 0;obtain⟨d1,e1⟩:=b3Z s2 hB 1;have d0:=d0.trans C0;have d1:=d1.trans C1;have e0:=e0.trans Z0;have e1:=e1.trans Z1;unfold cellAt at d0 d1;have hsz:w.heap.size<w2.heap.size:=Nat.lt_of_lt_of_le hB s2.size;have hW:Wrote w.heap.size w2 (((w2.setCell ⟨w.heap.size,0,none⟩ (.int .i64 fa)).setCell ⟨w.heap.size,0+1,none⟩ (.int .i64 fb)).alloc (.cells #[.int .i64 fa,.int .i64 fb] 84)):=by
     refine⟨?_,rfl,rfl,rfl,fun b hb hn=>?_⟩
     ·refine Nat.le_trans ?_ (a15.push _ _).size;rw[World.size_setCell,World.size_setCell];exact Nat.le_refl _
     refine((a15.push _ _).blk b (by rw[World.size_setCell,World.size_setCell];exact hb)).trans ?_;rw[heap_setCell_other _ _ _ _ hn,heap_setCell_other _ _ _ _ hn]
    have c0:(w2.setCell ⟨w.heap.size,0,none⟩ (.int .i64 fa)).cell? ⟨w.heap.size,0+1,none⟩=some (.int .i64 0):=(World.cell?_setCell_other _ _ _ _ zSi).trans d1;have f1:((w2.setCell ⟨w.heap.size,0,none⟩ (.int .i64 fa)).setCell ⟨w.heap.size,0+1,none⟩ (.int .i64 fb)).cell? ⟨w.heap.size,0+1,none⟩=some (.int .i64 fb):=World.cell?_setCell_same _ _ _ c0;have f0:((w2.setCell ⟨w.heap.size,0,none⟩ (.int .i64 fa)).setCell ⟨w.heap.size,0+1,none⟩ (.int .i64 fb)).cell? ⟨w.heap.size,0,none⟩=some (.int .i64 fa):=(World.cell?_setCell_other _ _ _ _ zSi).trans (World.cell?_setCell_same _ _ _ d0);have hsz2:w.heap.size<((w2.setCell ⟨w.heap.size,0,none⟩ (.int .i64 fa)).setCell ⟨w.heap.size,0+1,none⟩ (.int .i64 fb)).heap.size:=by rw[World.size_setCell,World.size_setCell];exact hsz
    have GT:a15 _ (((w2.setCell ⟨w.heap.size,0,none⟩ (.int .i64 fa)).setCell ⟨w.heap.size,0+1,none⟩ (.int .i64 fb)).alloc (.cells #[.int .i64 fa,.int .i64 fb] 84)):=a15.push _ _;have f0:=(GT.cell hsz2 0).trans f0;have f1:=(GT.cell hsz2 (0+1)).trans f1;unfold cellAt at f0 f1;simp only[Nat.zero_add]at f0 f1;have E:=Ext.left hS G hB s2 hW;have S:=s1.left (fun p hp=>(hS.kp.1 p hp).1) s2 hW;go_wp2;refine leaves_cons (f:=42) (args:=#[.pointer (some ⟨w.heap.size,0,none⟩)]) zSi (by simp[go_sem]) ?_;refine(c5o w.heap.size 0 0 0 fa fb .nilIface [] w2 d0 d1 e0 e1).mono ?_;rintro e u' w'' ⟨rfl,rfl,rfl⟩;simp[Leaves,settle,results,Tryz.results22,go_sem,f0,f1];rw[b2r]at s3 s6;exact⟨ρ',_,S,E,s3,.agg _ [.int .i64 fa,.int .i64 fb] rfl (agg2 _ _),s5,s6⟩
   | outgrown=>exact hP.elim
  cases ho
 cases hp
end Go.Proofs.YtimgnjbjbdgmaaaGreatDoor
