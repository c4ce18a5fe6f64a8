/- What the functions under ParseModules compute, step by step, as functions in Lean: texts that were built one by one, joined. -/
import Derived.Test.YtcbjnilpecpbmaaGreatDoorParseModulesJ11
import Derived.KernelRfl
import Derived.Test.YtcbjnilpecpbmaaGreatDoorProg
import Derived.Tactics
import Derived.Tactics2
import Derived.Defers
import Derived.Recover
import Derived.Laws.Pointers
import Derived.BigCall
import Derived.BigGuard
set_option maxRecDepth 100000
set_option maxHeartbeats 20000000
set_option linter.unusedSimpArgs false
set_option linter.unusedVariables false
set_option linter.unusedSectionVars false
namespace Go.Proofs.YtcbjnilpecpbmaaGreatDoor
open Go Go.Vm
theorem cell_lt {w:World}{b o:Nat}{x:Value}(h:w.cell? ⟨b,o,none⟩=some x):b<w.heap.size:=a0R h
theorem c4T (b o:Nat)(x y fa fb:Int)(u:Value)(older:List PanicEntry)(w:World)(h0:w.cell? ⟨b,o,none⟩=some (.int .i64 x))(h1:w.cell? ⟨b,o+1,none⟩=some (.int .i64 y))(z0:w.frozen? ⟨b,o,none⟩=false)(z1:w.frozen? ⟨b,o+1,none⟩=false) :
  CallsD Tryz.prog 32 #[.pointer (some ⟨b,o,none⟩)] (.panicking ({v:=.iface 80 (.agg #[.int .i64 fa,.int .i64 fb]),recovered:=false}::older)) w fun e u' w' =>
   e=.returned (.tuple #[])/\u'=.panicking ({v:=.iface 80 (.agg #[.int .i64 fa,.int .i64 fb]),recovered:=true}::older) /\
   w' =((w.setCell ⟨b,o,none⟩ (.int .i64 fa)).setCell ⟨b,o+1,none⟩ (.int .i64 fb)).alloc (.cells #[.int .i64 fa,.int .i64 fb] 80):=by
 refine callsD_of_wpS Tryz.func32 rfl fun c₀ cs hu=>?_
 apply wpS_seq
 apply wpS_region
 simp[wpOpsS,go_sem,recoverD,hu,Tryz.ntmps32,Exit.thenS]
 refine wpS_of_wp ?_
 go_wp2
 have hta:(Instr.typeAssert (.iface 80 (.agg #[.int .i64 fa,.int .i64 fb])) 20 80 true).run Tryz.prog w=.ok (.tuple #[.agg #[.int .i64 fa,.int .i64 fb],.bool true]) w:=by
  simp only[Instr.typeAssert,Sem.run_bind,run_underlying Tryz.underlying80,Result.andThen_ok]
  simp
 rw[hta]
 simp only[Result.andThen]
 rw[Oper.upon_value]
 have hb:=cell_lt h0
 have G:a0Q w (w.alloc (.cells #[.int .i64 fa,.int .i64 fb] 80)):=a0Q.push w _
 have a0:=(G.cell hb o).trans h0
 have a1:=(G.cell hb (o+1)).trans h1
 have y0:=(G.frozen hb o).trans z0
 have y1:=(G.frozen hb (o+1)).trans z1
 unfold cellAt at a0 a1
 have a2:((w.alloc (.cells #[.int .i64 fa,.int .i64 fb] 80)).setCell ⟨b,o,none⟩ (.int .i64 fa)).cell? ⟨b,o+1,none⟩=some (.int .i64 y):=(World.cell?_setCell_other _ _ _ _ (by simp)).trans a1
 have y2:((w.alloc (.cells #[.int .i64 fa,.int .i64 fb] 80)).setCell ⟨b,o,none⟩ (.int .i64 fa)).frozen? ⟨b,o+1,none⟩=false:=by simp[y1]
 go_wp2
 obtain⟨a₀,b₀,e₀,d₀,f₀,g₀,h₀⟩:=c₀
 subst hu
 simp[bodyPostS,results,Tryz.results32]
theorem c4S (p:Addr)(w:World) :
  CallsD Tryz.prog 32 #[.pointer (some p)] .returning w fun e u' w'=>e=.returned (.tuple #[])/\u'=.returning/\w'=w:=by
 refine callsD_of_wpS Tryz.func32 rfl fun c₀ cs hu=>?_
 apply wpS_seq
 apply wpS_region
 simp[wpOpsS,go_sem,recoverD,hu,Tryz.ntmps32,Exit.thenS]
 refine wpS_of_wp ?_
 go_wp2
 cases c₀
 simp_all [bodyPostS,results,Tryz.results32]
def gClo:List Nat:=[14,2,3]
def gPre:List V->Hp->Option (Nat×List V×Hp):=fun args H=>match args with
 | [.ptr _ _,.func (.func g) a c]=>gd (has g gClo) (some (g,a++c,b2c H))
 | _=>none
def b9Q:List V->Hp->Out->Option Out:=fun _ _ o=>match o with
 | .ret (.tuple []) H1=>some (.ret (.agg [.int .i64 0,.int .i64 0]) H1)
 | .pan (.iface t (.agg [.int .i64 a,.int .i64 b])) H1=>gd (Nat.beq t 80) (some (.ret (.agg [.int .i64 a,.int .i64 b]) H1))
 | _=>none
theorem c7r {g:Nat} (h:has g gClo=true):∃fn c,Tryz.prog.funcs[g]? = some fn/\(fn.name == "runtime.NumGoroutine")=false/\fn.body=some c:=by
 have:g=14∨g=2∨g=3:=by
  simp only[has,gClo]at h
  split at h
  ·exact .inl (Nat.eq_of_beq_eq_true (by assumption)).symm
  ·split at h
   ·exact .inr (.inl (Nat.eq_of_beq_eq_true (by assumption)).symm)
   ·split at h
    ·exact .inr (.inr (Nat.eq_of_beq_eq_true (by assumption)).symm)
    ·cases h
 rcases this with rfl|rfl|rfl
 ·exact⟨_,_,Tryz.func14,rfl,rfl⟩
 ·exact⟨_,_,Tryz.func2,rfl,rfl⟩
 ·exact⟨_,_,Tryz.func3,rfl,rfl⟩
theorem agg2 {ρ:Rho}{lab:Lab}{w:World}(a b:Int):∀(i:Nat) (v:V) (x:Value),[V.int .i64 a,.int .i64 b][i]? = some v->[Value.int .i64 a,.int .i64 b][i]? = some x->Rel ρ lab w v x
 | 0,_,_,h,g=>by cases h;cases g;exact .int _ _
 | 1,_,_,h,g=>by cases h;cases g;exact .int _ _
 | i+2,_,_,h,g=>by simp at h
theorem a9F:ViaOk Tryz.prog 13 gPre b9Q:=by
 refine⟨fun args H g' l H' o out hp ho ρ lab w xs hc hS hx hcall=>?_,⟨_,_,Tryz.func13,rfl,rfl⟩⟩
 unfold gPre at hp
 split at hp
 ·rename_i args0 r off g0 a c
  obtain⟨hg,hp⟩:=O1 hp
  cases hp
  obtain⟨x1,xr0,rfl,r1,r2⟩:=H6.1 hx
  obtain⟨x2,xr,rfl,r3,r4⟩:=H6.1 r2
  have:xr=[]:=by have:=r4.1;simpa using this
  subst this
  cases r3 with
  | func _ _ _ us ys u1 u2 u3 u4 =>
  obtain⟨fn,cd,k1,k2,k3⟩:=c7r hg
  have hrun:∀args w,(callFunc g' args).run Tryz.prog w=.ok (.enter g' args) w:=fun args w=>by
   have h1:fn.name ≠ "runtime.NumGoroutine":=by simpa using k2
   simp[callFunc,k1,h1,k3]
  have G:a0Q w (w.alloc (.cells #[.int .i64 0,.int .i64 0] 39)):=a0Q.push w _
  have hB:w.heap.size<(w.alloc (.cells #[.int .i64 0,.int .i64 0] 39)).heap.size:=by
   show w.heap.size<(w.heap.push _).size
   rw[Array.size_push];omega
  have hS1:=(hS.mine G hB).b2c
  have hl:J9 ρ lab w (a++c) (us++ys):=J9.append ⟨u1,u3⟩ ⟨u2,u4⟩
  have hl1:=hl.carry (mineF G)
  have hK:=hcall ρ _ _ (us++ys) (b6y _ _ hc) hS1 hl1
  have C0:(w.alloc (.cells #[.int .i64 0,.int .i64 0] 39)).cell? ⟨w.heap.size,0,none⟩=some (.int .i64 0):=by simp
  have C1:(w.alloc (.cells #[.int .i64 0,.int .i64 0] 39)).cell? ⟨w.heap.size,1,none⟩=some (.int .i64 0):=by simp
  have Z0:(w.alloc (.cells #[.int .i64 0,.int .i64 0] 39)).frozen? ⟨w.heap.size,0,none⟩=false:=by simp
  have Z1:(w.alloc (.cells #[.int .i64 0,.int .i64 0] 39)).frozen? ⟨w.heap.size,1,none⟩=false:=by simp
  have hmf:∀(fn:Fn) (first cap:Array Value) (w:World),(Instr.makeFunc fn first cap).run Tryz.prog w=.ok (.func fn first cap) w:=fun _ _ _ _=>rfl
  clear hcall hx r1 r2 r4 u3 u4 hl hl1 hS1
  generalize hw1:w.alloc (.cells #[.int .i64 0,.int .i64 0] 39)=w1 at *
  go_enter_defers Tryz.func13,Tryz.ntmps13
  go_wp2
  refine hK.mono ?_
  intro e w2 hP
  unfold b9Q at ho
  split at ho
  ·rename_i H1
   cases ho
   cases e with
   | returned x =>
    obtain⟨ρ',lab',s1,s2,s3,s4,s5,s6⟩:=hP
    have hx0:x=.tuple #[]:=by
     cases s4 with
     | tuple _ zs h1 h2 =>
      have:zs=[]:=by simpa using h1
      subst this;rfl
    subst hx0
    obtain⟨d0,e0⟩:=b3O s2 hB 0
    obtain⟨d1,e1⟩:=b3O s2 hB 1
    have d0:=d0.trans C0
    have d1:=d1.trans C1
    have E:=Ext.left hS G hB s2 (Wrote.refl _ w2)
    have S:=s1.left s2 (Wrote.refl _ w2)
    unfold cellAt at d0 d1
    go_wp2
    refine leaves_cons (f:=32) (args:=#[.pointer (some ⟨w.heap.size,0,none⟩)]) (by simp) (by simp[go_sem]) ?_
    refine(c4S ⟨w.heap.size,0,none⟩ _).mono ?_
    rintro e u' w'' ⟨rfl,rfl,rfl⟩
    simp[Leaves,settle,results,Tryz.results13,go_sem,d0,d1]
    rw[b1R]at s3 s6
    exact⟨ρ',_,S,E,s3,.agg _ [.int .i64 0,.int .i64 0] rfl (agg2 _ _),s5,s6⟩
   | panicked ch=>exact hP.elim
   | outgrown=>exact hP.elim
  ·rename_i t fa fb H1
   obtain⟨ht,ho⟩:=O1 ho
   cases ho
   have ht:=Nat.eq_of_beq_eq_true ht
   subst ht
   cases e with
   | returned x=>exact hP.elim
   | panicked ch =>
    obtain⟨x,rfl,ρ',lab',s1,s2,s3,s4,s5,s6⟩:=hP
    obtain⟨xv,rfl,s7⟩:∃xv,x=.iface 80 xv/\xv=.agg #[.int .i64 fa,.int .i64 fb]:=by
     cases s4 with
     | iface _ _ xv h =>
      refine⟨xv,rfl,?_⟩
      cases h with
      | agg _ zs h1 h2 =>
       match zs,h1,h2 with
       | [z0,z1],_,h2 =>
        have q0:=h2 0 _ z0 rfl rfl
        have q1:=h2 1 _ z1 rfl rfl
        cases q0;cases q1;rfl
    subst s7
    obtain⟨d0,e0⟩:=b3O s2 hB 0
    obtain⟨d1,e1⟩:=b3O s2 hB 1
    have d0:=d0.trans C0
    have d1:=d1.trans C1
    have e0:=e0.trans Z0
    have e1:=e1.trans Z1
    unfold cellAt at d0 d1
    have hsz:w.heap.size<w2.heap.size:=Nat.lt_of_lt_of_le hB s2.size
    have hW:Wrote w.heap.size w2 (((w2.setCell ⟨w.heap.size,0,none⟩ (.int .i64 fa)).setCell ⟨w.heap.size,0+1,none⟩ (.int .i64 fb)).alloc (.cells #[.int .i64 fa,.int .i64 fb] 80)):=by
     refine⟨?_,rfl,rfl,rfl,fun b hb hn=>?_⟩
     ·refine Nat.le_trans ?_ (a0Q.push _ _).size
      rw[World.size_setCell,World.size_setCell]
      exact Nat.le_refl _
     ·refine((a0Q.push _ _).blk b (by rw[World.size_setCell,World.size_setCell];exact hb)).trans ?_
      rw[heap_setCell_other _ _ _ _ hn,heap_setCell_other _ _ _ _ hn]
    have c0:(w2.setCell ⟨w.heap.size,0,none⟩ (.int .i64 fa)).cell? ⟨w.heap.size,0+1,none⟩=some (.int .i64 0):=(World.cell?_setCell_other _ _ _ _ (by simp)).trans d1
    have f1:((w2.setCell ⟨w.heap.size,0,none⟩ (.int .i64 fa)).setCell ⟨w.heap.size,0+1,none⟩ (.int .i64 fb)).cell? ⟨w.heap.size,0+1,none⟩=some (.int .i64 fb):=World.cell?_setCell_same _ _ _ c0
    have f0:((w2.setCell ⟨w.heap.size,0,none⟩ (.int .i64 fa)).setCell ⟨w.heap.size,0+1,none⟩ (.int .i64 fb)).cell? ⟨w.heap.size,0,none⟩=some (.int .i64 fa):=(World.cell?_setCell_other _ _ _ _ (by simp)).trans (World.cell?_setCell_same _ _ _ d0)
    have hsz2:w.heap.size<((w2.setCell ⟨w.heap.size,0,none⟩ (.int .i64 fa)).setCell ⟨w.heap.size,0+1,none⟩ (.int .i64 fb)).heap.size:=by rw[World.size_setCell,World.size_setCell];exact hsz
    have GT:a0Q _ (((w2.setCell ⟨w.heap.size,0,none⟩ (.int .i64 fa)).setCell ⟨w.heap.size,0+1,none⟩ (.int .i64 fb)).alloc (.cells #[.int .i64 fa,.int .i64 fb] 80)):=a0Q.push _ _
    have f0:=(GT.cell hsz2 0).trans f0
    have f1:=(GT.cell hsz2 (0+1)).trans f1
    unfold cellAt at f0 f1
    simp only[Nat.zero_add]at f0 f1
    have E:=Ext.left hS G hB s2 hW
    have S:=s1.left s2 hW
    go_wp2
    refine leaves_cons (f:=32) (args:=#[.pointer (some ⟨w.heap.size,0,none⟩)]) (by simp) (by simp[go_sem]) ?_
    refine(c4T w.heap.size 0 0 0 fa fb .nilIface [] w2 d0 d1 e0 e1).mono ?_
    rintro e u' w'' ⟨rfl,rfl,rfl⟩
    simp[Leaves,settle,results,Tryz.results13,go_sem,f0,f1]
    rw[b1R]at s3 s6
    exact⟨ρ',_,S,E,s3,.agg _ [.int .i64 fa,.int .i64 fb] rfl (agg2 _ _),s5,s6⟩
   | outgrown=>exact hP.elim
  ·cases ho
 ·cases hp
end Go.Proofs.YtcbjnilpecpbmaaGreatDoor
namespace Go.Proofs.YtcbjnilpecpbmaaGreatDoor
open Go Go.Vm
def T:List (Nat×Ty):=[
 (1,⟨.func,1,8,[.nilFunc]⟩),
 (3,⟨.int .i64,1,8,[.i 0]⟩),
 (4,⟨.bool,1,1,[.bool false]⟩),
 (5,⟨.int .u8,1,1,[.int .u8 0]⟩),
 (9,⟨.string,1,16,[.str []]⟩),
 (24,⟨.slice 26,1,24,[.slice .nil 0 []]⟩),
 (26,⟨.struct [(3,0),(9,1),(3,2),(24,3)],4,56,[.i 0,.str [],.i 0,.slice .nil 0 []]⟩),
 (27,⟨.slice 29,1,24,[.slice .nil 0 []]⟩),
 (29,⟨.struct [(3,0),(9,1),(3,2),(26,3),(24,7),(27,8),(3,9)],10,144,[.i 0,.str [],.i 0,.i 0,.str [],.i 0,.slice .nil 0 [],.slice .nil 0 [],.slice .nil 0 [],.i 0]⟩),
 (30,⟨.slice 39,1,24,[.slice .nil 0 []]⟩),
 (36,⟨.ptr 44,1,8,[.nilptr]⟩),
 (37,⟨.int .i64,1,8,[.i 0]⟩),
 (39,⟨.struct [(37,0),(3,1)],2,16,[.i 0,.i 0]⟩),
 (42,⟨.slice 59,1,24,[.slice .nil 0 []]⟩),
 (44,⟨.struct [(42,0),(3,1),(3,2)],3,40,[.slice .nil 0 [],.i 0,.i 0]⟩),
 (53,⟨.ptr 55,1,8,[.nilptr]⟩),
 (55,⟨.struct [(42,0),(3,1),(3,2),(3,3)],4,48,[.slice .nil 0 [],.i 0,.i 0,.i 0]⟩),
 (59,⟨.struct [(3,0),(9,1),(3,2),(3,3)],4,40,[.i 0,.str [],.i 0,.i 0]⟩),
 (69,⟨.slice 9,1,24,[.slice .nil 0 []]⟩),
 (80,⟨.struct [(39,0)],2,16,[.i 0,.i 0]⟩),
 (150,⟨.slice 157,1,24,[.slice .nil 0 []]⟩),
 (157,⟨.struct [(69,0),(4,1)],2,32,[.slice .nil 0 [],.bool false]⟩),
 (158,⟨.slice 69,1,24,[.slice .nil 0 []]⟩)]
def keep:Nat->Nat->List Nat
 | 6,7=>[2,4,6,7,8]
 | 6,100022=>[2,6,8]
 | 6,190041=>[2,4,6,7,8,41]
 | 7,8=>[2,4,6,7,8,9]
 | 7,100025=>[2,4,6,7,8,9,10]
 | 7,100026=>[2,7,9]
 | 7,190044=>[2,4,6,7,8,9,44]
 | 8,4=>[0,1,5]
 | 8,100009=>[]
 | 9,130003=>[2,3,4,51]
 | 15,100017=>[0,2,3]
 | 15,100019=>[0,2,3]
 | 15,130020=>[0,2,3,56]
 | 16,4=>[0,4,5]
 | 16,100003=>[0,1]
 | 16,100006=>[0,4,5]
 | 16,100014=>[0]
 | 16,130009=>[0,4,5,6,57]
 | 16,130011=>[0,4,5,6,69]
 | 16,130013=>[0,4,5,79]
 | 17,3=>[2,3,9,10,11]
 | 17,100010=>[2,3]
 | 19,100005=>[0,2,4]
 | 19,100007=>[0,2,4]
 | 20,3=>[1,4,5,6]
 | 20,100009=>[4,5]
 | 22,6=>[0,7,8,9]
 | 22,9=>[0,7,8]
 | 22,100005=>[0,1,7]
 | 22,100010=>[0,7,8]
 | 22,100013=>[0,7]
 | 22,190025=>[0,7,8,9,25]
 | 22,190050=>[0,7,8,50]
 | 24,4=>[0,1,5]
 | 24,100009=>[]
 | 25,4=>[0,1,2,7]
 | 25,100009=>[]
 | 34,5=>[0,2,3]
 | 34,12=>[0,2,3]
 | 34,100013=>[0,2,3]
 | 34,100017=>[0,2,3]
 | 35,8=>[0,2,3]
 | 35,16=>[0,2,3]
 | 35,100017=>[0,2,3]
 | 35,100020=>[0,2,3]
 | 40,4=>[0,3]
 | 40,100010=>[0,3]
 | 41,3=>[0,3]
 | 41,100009=>[0,3,4]
 | 41,100014=>[0,3]
 | 41,100018=>[0,3]
 | 41,190013=>[0,3,13]
 | 42,3=>[0,3]
 | 42,11=>[0,3,4]
 | 42,100008=>[0,3,4]
 | 42,100014=>[0,3,4]
 | 42,100015=>[0,3,4]
 | 42,100017=>[3]
 | 50,8=>[0,3,4,8]
 | 50,100014=>[0,3,4,8,10]
 | 50,100023=>[0,3,4,8]
 | 50,100031=>[0,3,4,8]
 | 50,130008=>[0,3,4,8,40]
 | 50,130016=>[0,3,4,8,10,11,67]
 | 50,130020=>[0,3,4,8,10,13,82]
 | 50,190047=>[0,3,4,8,47]
 | 51,8=>[0,3,4,8]
 | 51,100013=>[0,3,4,8,10]
 | 51,100024=>[0,3,4,8,10]
 | 51,100027=>[0,3,4,8]
 | 51,130008=>[0,3,4,8,37]
 | 51,130022=>[0,3,4,8,10,13,78]
 | 51,190044=>[0,3,4,8,44]
 | 52,6=>[0,3,4,8]
 | 52,18=>[0,3,4,8]
 | 52,100019=>[0,3,4,8]
 | 52,100024=>[0,3,4,8]
 | 52,130004=>[0,3,4,6,28]
 | 52,130016=>[0,3,4,8,9,12,60]
 | 52,130022=>[0,3,4,8,14,81]
 | 53,12=>[0,3,4,10]
 | 53,24=>[0,3,4,10]
 | 53,100025=>[0,3,4,10]
 | 53,100030=>[0,3,4,10]
 | 53,130004=>[0,3,4,6,31]
 | 53,130012=>[0,3,4,10,56]
 | 53,130018=>[0,3,4,10,12,13,76]
 | 53,130022=>[0,3,4,10,12,15,91]
 | 54,100025=>[0,1,4,6,9]
 | 54,100030=>[0,1,4,6,9]
 | 54,100039=>[4,6,9]
 | 54,130011=>[0,1,4,6,9,47]
 | 54,130022=>[0,1,4,6,9,11,12,80]
 | 56,130013=>[8]
 | 69,4=>[0,3]
 | 70,100013=>[0,2,3]
 | 71,8=>[0,2,3]
 | 71,100011=>[0,2,3]
 | 71,100012=>[0,2,3]
 | 72,4=>[0,3]
 | 72,100013=>[0,3,4]
 | 78,2=>[0,1,7,8]
 | 78,100008=>[]
 | 91,4=>[0,1,6]
 | 91,100017=>[0,1]
 | 94,18=>[0,2,12,13]
 | 94,100012=>[0,2,6]
 | 94,100023=>[2,12,13]
 | 94,130010=>[0,2,6,7,43]
 | 94,190074=>[0,2,12,13,74]
 | 96,3=>[0,4,5]
 | 96,100010=>[4]
 | 97,5=>[0,4,5]
 | 97,100014=>[4]
 | 98,4=>[0,1,6]
 | 98,100023=>[0,1,7]
 | 98,100025=>[1]
 | 99,4=>[0,1,6]
 | 99,100011=>[0,1,7]
 | 99,100021=>[0,1]
 | 99,130013=>[0,1,7,8,37]
 | 122,5=>[0,3]
 | 122,100011=>[0,3,4]
 | 122,100016=>[0,3]
 | 124,5=>[0,1,4,5,6]
 | 124,9=>[0,1,4,7]
 | 124,100008=>[0,1,4,5,6]
 | 124,100009=>[0,1,4,5,6]
 | 124,100013=>[4,7]
 | 124,190038=>[0,1,4,7,38]
 | 125,2=>[0,3]
 | 125,100005=>[3]
 | 128,100011=>[2,4,6]
 | 128,100024=>[2,4,6,9]
 | 128,100026=>[2,4,6,9]
 | 128,130009=>[2,4,7,31]
 | 128,130013=>[2,4,6,9,34]
 | 128,130015=>[2,4,6,9,42]
 | 128,130017=>[2,4,6,9,50]
 | 128,130019=>[2,4,6,9,58]
 | 128,130021=>[2,4,6,9,66]
 | 128,130023=>[2,4,6,9,74]
 | 129,2=>[0,4]
 | 129,100008=>[4]
 | 141,100016=>[0,1,4,5]
 | 141,130004=>[0,1,4,5,6]
 | 141,130006=>[0,1,4,5,16]
 | 142,100005=>[0,2,3]
 | 142,100027=>[2,5]
 | 142,130008=>[0,2,23,24]
 | 143,130004=>[0,2,4,24]
 | 143,130028=>[0,2,4,14,125]
 | 148,100006=>[0,2,3]
 | 148,100010=>[0,2,3,4]
 | 148,130011=>[0,2,3,30]
 | 149,100011=>[2,3,4]
 | 149,100012=>[2,3]
 | 150,5=>[0,2,3]
 | 150,100012=>[0,2,3]
 | 150,100017=>[0,2,3]
 | 153,1=>[1]
 | 153,100004=>[1]
 | 154,100006=>[0,2,4]
 | 154,100017=>[0,2,4,7]
 | 154,100024=>[0,2,4]
 | 154,130023=>[0,2,4,62]
 | 155,100017=>[2,4,5,7,8,9]
 | 157,6=>[0,4,6,9]
 | 157,100018=>[0,4,6,9]
 | 157,100026=>[0,4,6,9]
 | 157,130005=>[0,4,6,7,32]
 | 165,6=>[0,2,3]
 | 165,100009=>[0,2,3]
 | 165,100025=>[2,3]
 | 166,100007=>[0,2,3]
 | 168,3=>[0,2,6,7,14,15]
 | 168,6=>[0,2,6,7,9,14,15]
 | 168,100014=>[0,2,6,7,14,15]
 | 168,100015=>[6,7]
 | 168,190065=>[0,2,6,7,9,14,15,65]
 | 169,6=>[0,1,4,6,7,8,9]
 | 169,10=>[0,1,4,6,7,9,10,11]
 | 169,100008=>[0,1,4,6,7,8,9]
 | 169,100012=>[0,1,4,6,7,9,10,11]
 | 169,100015=>[0,1,4,6,7,9,10]
 | 169,100021=>[4,7,8]
 | 169,190038=>[0,1,4,6,7,8,9,38]
 | 170,37=>[0,2,4,15,16]
 | 170,100044=>[0,2,4,15]
 | 171,1=>[1]
 | 171,100004=>[1]
 | 171,190011=>[1,11]
 | 178,4=>[0,2,3,4]
 | 178,100010=>[0,2,4,5]
 | 178,100017=>[0,2,4]
 | 181,3=>[0,3,4]
 | 181,100007=>[3]
 | 186,27=>[0,2,3]
 | 186,100030=>[0,2,3]
 | 186,100037=>[2,3]
 | 187,5=>[0,3]
 | 187,100011=>[0,3]
 | 187,100012=>[0,3]
 | 188,2=>[0,2,4,5]
 | 188,100018=>[2,4,5]
 | 195,5=>[0,2,3,4]
 | 197,3=>[0,2,3]
 | 197,100008=>[2,3]
 | 198,35=>[0,2,4,15]
 | 198,100043=>[0,2,4]
 | 198,100045=>[0,2]
 | 199,6=>[0,1,6]
 | 199,100015=>[0,1,8,9]
 | 199,100019=>[0,1]
 | 215,2=>[0,2,4]
 | 215,130011=>[0,2,4,7,61]
 | 216,100015=>[0,2,4,5,6]
 | 217,3=>[0,2,4,5,6]
 | 217,100023=>[2,4]
 | 218,4=>[0,2,4,6,7]
 | 218,100009=>[2,6,7]
 | 218,190024=>[0,2,4,6,7,24]
 | _,_=>[]
def cut:Nat->Nat->Bool
 | 6,22=>true
 | 6,90041=>true
 | 7,25=>true
 | 7,26=>true
 | 7,90044=>true
 | 8,9=>true
 | 9,30003=>true
 | 15,17=>true
 | 15,19=>true
 | 15,30020=>true
 | 16,3=>true
 | 16,6=>true
 | 16,14=>true
 | 16,30009=>true
 | 16,30011=>true
 | 16,30013=>true
 | 17,10=>true
 | 19,5=>true
 | 19,7=>true
 | 20,9=>true
 | 22,5=>true
 | 22,10=>true
 | 22,13=>true
 | 22,90025=>true
 | 22,90050=>true
 | 24,9=>true
 | 25,9=>true
 | 34,13=>true
 | 34,17=>true
 | 35,17=>true
 | 35,20=>true
 | 40,10=>true
 | 41,9=>true
 | 41,14=>true
 | 41,18=>true
 | 41,90013=>true
 | 42,8=>true
 | 42,14=>true
 | 42,15=>true
 | 42,17=>true
 | 50,14=>true
 | 50,23=>true
 | 50,31=>true
 | 50,30008=>true
 | 50,30016=>true
 | 50,30020=>true
 | 50,90047=>true
 | 51,13=>true
 | 51,24=>true
 | 51,27=>true
 | 51,30008=>true
 | 51,30022=>true
 | 51,90044=>true
 | 52,19=>true
 | 52,24=>true
 | 52,30004=>true
 | 52,30016=>true
 | 52,30022=>true
 | 53,25=>true
 | 53,30=>true
 | 53,30004=>true
 | 53,30012=>true
 | 53,30018=>true
 | 53,30022=>true
 | 54,25=>true
 | 54,30=>true
 | 54,39=>true
 | 54,30011=>true
 | 54,30022=>true
 | 56,30013=>true
 | 70,13=>true
 | 71,11=>true
 | 71,12=>true
 | 72,13=>true
 | 78,8=>true
 | 91,17=>true
 | 94,12=>true
 | 94,23=>true
 | 94,30010=>true
 | 94,90074=>true
 | 96,10=>true
 | 97,14=>true
 | 98,23=>true
 | 98,25=>true
 | 99,11=>true
 | 99,21=>true
 | 99,30013=>true
 | 122,11=>true
 | 122,16=>true
 | 124,8=>true
 | 124,9=>true
 | 124,13=>true
 | 124,90038=>true
 | 125,5=>true
 | 128,11=>true
 | 128,24=>true
 | 128,26=>true
 | 128,30009=>true
 | 128,30013=>true
 | 128,30015=>true
 | 128,30017=>true
 | 128,30019=>true
 | 128,30021=>true
 | 128,30023=>true
 | 129,8=>true
 | 141,16=>true
 | 141,30004=>true
 | 141,30006=>true
 | 142,5=>true
 | 142,27=>true
 | 142,30008=>true
 | 143,30004=>true
 | 143,30028=>true
 | 148,6=>true
 | 148,10=>true
 | 148,30011=>true
 | 149,11=>true
 | 149,12=>true
 | 150,12=>true
 | 150,17=>true
 | 153,4=>true
 | 154,6=>true
 | 154,17=>true
 | 154,24=>true
 | 154,30023=>true
 | 155,17=>true
 | 157,18=>true
 | 157,26=>true
 | 157,30005=>true
 | 165,9=>true
 | 165,25=>true
 | 166,7=>true
 | 168,14=>true
 | 168,15=>true
 | 168,90065=>true
 | 169,8=>true
 | 169,12=>true
 | 169,15=>true
 | 169,21=>true
 | 169,90038=>true
 | 170,44=>true
 | 171,4=>true
 | 171,90011=>true
 | 178,10=>true
 | 178,17=>true
 | 181,7=>true
 | 186,30=>true
 | 186,37=>true
 | 187,11=>true
 | 187,12=>true
 | 188,18=>true
 | 197,8=>true
 | 198,43=>true
 | 198,45=>true
 | 199,15=>true
 | 199,19=>true
 | 215,30011=>true
 | 216,15=>true
 | 217,23=>true
 | 218,9=>true
 | 218,90024=>true
 | _,_=>false
def b5g:List Nat:=[]
def b4g:Nat->Nat->Bool
 | 37,7=>true
 | 37,8=>true
 | 40,0=>true
 | 70,8=>true
 | 72,0=>true
 | 91,0=>true
 | 96,0=>true
 | 98,0=>true
 | 99,0=>true
 | 122,0=>true
 | 151,8=>true
 | f,_=>has f b5g
def a8j:Nat->Nat->Bool
 | 91,1=>true
 | 98,1=>true
 | 99,1=>true
 | 199,1=>true
 | f,_=>has f b5g
def slk:Nat->Nat->List (Nat×Nat)
 | 54,100030=>[(6,6)]
 | 94,18=>[(12,3)]
 | 124,9=>[(7,3)]
 | 154,100017=>[(4,6)]
 | 168,6=>[(7,6),(7,7),(7,8)]
 | 168,100014=>[(7,6),(7,7),(7,8)]
 | 169,6=>[(7,6),(7,7),(7,8)]
 | 178,4=>[(4,6),(4,7)]
 | 178,100017=>[(4,8)]
 | 186,100037=>[(3,8)]
 | 188,2=>[(4,6),(4,7),(4,8)]
 | 197,3=>[(3,6)]
 | 199,100015=>[(8,6),(8,7),(8,8)]
 | 216,100015=>[(5,6)]
 | 217,3=>[(5,3)]
 | _,_=>[]
def sep:Nat->Nat->Option (List Nat×List Nat)
 | 6,3=>some ([0,1,2,3,4],[5,1000002])
 | 7,3=>some ([0,1,2,3,4],[5,1000002])
 | 11,2=>some ([0,1,2,3,5,4,6,7],[5])
 | 15,12=>some ([0,1,2,3,4,5,6],[30])
 | 15,22=>some ([0,1,2,3,4,5,6],[64])
 | 15,27=>some ([0,1,2,3,4,5,6],[79])
 | 33,3=>some ([0,1,2,3,4,5,6,7,8,9,10,11,12,13],[32,28,24])
 | 36,3=>some ([0,1,2,3,4,5,6,7],[7])
 | 42,10=>some ([0,1,2,3,4,5,6,7],[22])
 | 42,12=>some ([0,1,2,3,4,5,6,7],[31])
 | 70,5=>some ([0,1,2,3,4,5,6],[15])
 | 70,13=>some ([0,1,2,3,4,5,6],[41])
 | 74,3=>some ([0,1,2,3,4,5,6,7,8,9,10,11],[20,18,14])
 | 124,11=>some ([0,2,3,1,4,5],[7])
 | 142,18=>some ([0,1,2,3,4,5,6,7],[56])
 | 142,37=>some ([0,1,2,3,4,5,6,7],[112])
 | 142,45=>some ([0,1,2,3,4,5,6,7],[144])
 | 143,20=>some ([0,1,2,3,4,5,6,7],[9])
 | 143,23=>some ([0,1,2,3,4,5,6,7,8,9,10],[12])
 | 149,4=>some ([0,1,2,3,4,5,6,7],[13])
 | 150,9=>some ([0,1,2,3,4,5,6,7],[32])
 | 150,14=>some ([0,1,2,3,4,5,6,7],[54])
 | 158,12=>some ([0,1,2,3,4,5,6,7,8,9,10,11,12],[7,4,44])
 | 165,5=>some ([0,1,2,3,4,5,6,7],[14])
 | 165,7=>some ([0,1,2,3,4,5,6,7],[23])
 | 168,7=>some ([0,1,2,3,4,5,6,7,8,9,10,11,12,13,14,15],[77,75,72,68])
 | 168,9=>some ([0,1,3,4,5,6,2,7,8,9],[])
 | 178,5=>some ([0,2,3,4,5,1,6,7,8],[4,17])
 | 178,8=>some ([0,1,2,3,4,5,6],[25])
 | 178,12=>some ([0,1,2,3,4,5,6,7],[38,36])
 | 178,14=>some ([0,1,2,3,4,5,6],[48])
 | 186,26=>some ([0,1,2,3,4,5,6,7],[77])
 | 186,28=>some ([0,1,2,3,4,5,6,7],[86])
 | 195,5=>some ([0,1,2,3,4,5,6,7],[16])
 | 198,46=>some ([0,1,2,3,4,5,6,7],[20])
 | 215,2=>some ([0,1,2,3,4,5,6,7,8,9,10,11],[21,19,15])
 | 217,6=>some ([0,1,2,3,4,5,6,7],[5,1000033])
 | 217,16=>some ([0,1,2,3,4,5,6,7],[5,1000062,1000063])
 | _,_=>none
def mask:Nat->Nat->List Nat
 | 6,3=>[0,0,2,1,15]
 | 7,3=>[0,0,2,1,15]
 | 11,2=>[0,0,2,7,15,0,31,127]
 | 15,12=>[0,1,0,4,15,31,63]
 | 15,22=>[0,1,0,4,15,31,63]
 | 15,27=>[0,1,0,4,15,31,63]
 | 33,3=>[0,1,3,7,0,16,48,112,0,496,1023,2047,0,8191]
 | 36,3=>[0,1,0,4,12,31,63,127]
 | 42,10=>[0,1,0,4,12,31,63,127]
 | 42,12=>[0,1,0,4,12,31,63,127]
 | 70,5=>[0,1,0,4,15,31,63]
 | 70,13=>[0,1,0,4,15,31,63]
 | 74,3=>[0,1,3,7,0,16,48,112,255,511,0,2047]
 | 124,11=>[0,1,0,4,15,31]
 | 142,18=>[0,1,0,4,12,31,63,127]
 | 142,37=>[0,1,0,4,12,31,63,127]
 | 142,45=>[0,1,0,4,12,31,63,127]
 | 143,20=>[0,0,2,6,14,30,31,127]
 | 143,23=>[0,0,2,7,0,16,48,112,240,255,1023]
 | 149,4=>[0,1,0,4,12,31,63,127]
 | 150,9=>[0,1,0,4,12,31,63,127]
 | 150,14=>[0,1,0,4,12,31,63,127]
 | 158,12=>[0,1,0,0,12,31,0,64,192,448,960,1023,4095]
 | 165,5=>[0,1,0,4,12,31,63,127]
 | 165,7=>[0,1,0,4,12,31,63,127]
 | 168,7=>[0,1,3,7,0,16,48,112,255,511,1023,0,2048,8191,0,32767]
 | 168,9=>[0,0,2,0,0,16,56,127,0,511]
 | 178,5=>[0,1,0,4,0,16,63,0,255]
 | 178,8=>[0,1,0,4,15,31,63]
 | 178,12=>[0,1,0,4,0,16,63,127]
 | 178,14=>[0,1,0,4,15,31,63]
 | 186,26=>[0,1,0,4,12,31,63,127]
 | 186,28=>[0,1,0,4,12,31,63,127]
 | 195,5=>[0,1,0,4,12,31,63,127]
 | 198,46=>[0,0,2,6,14,30,31,127]
 | 215,2=>[0,1,3,7,0,16,48,112,255,511,0,2047]
 | 217,6=>[0,0,0,4,13,29,63,127]
 | 217,16=>[0,0,0,4,13,29,63,127]
 | _,_=>[]
def okL:List Nat:=[3,4,6,7,8,9,11,12,14,15,16,17,19,20,21,22,23,24,25,33,34,35,36,37,38,39,40,41,42,43,44,49,50,51,52,53,54,55,56,68,69,70,71,72,73,74,75,76,77,78,89,90,91,92,93,94,95,96,97,98,99,122,123,124,125,127,128,129,141,142,143,148,149,150,151,152,153,154,155,156,157,158,165,166,167,168,169,170,171,177,178,179,180,181,186,187,188,195,196,197,198,199,215,216,217,218]
def c25:List Nat:=[12]
def b4R:List Nat:=[3,4,5,6,7,8,9,17,18,20,22,23,24,25,31,44,55,56,78,141,153,167,171,179,181,185]
def b6Y:List Nat:=[]
def tagL:List Nat:=[37,40,70,72,91,96,98,99,122,151]++b5g
def argL:List Nat:=[91,98,99,199]++b5g
theorem tys:tysB Tryz.prog T=true:=by kernel_rfl
theorem mixed:Tryz.prog.follows .mixedOrders=true:=by kernel_rfl
def b7T:Nat->Option Hand
 | 66=>some (.plain b9V)
 | 185=>some (.plain c2q)
 | 13=>some (.via gPre b9Q)
 | _=>none
noncomputable def b2V:Env:={P:=Tryz.prog,T:=T,keep:=keep,byref:=fun _ _=>none,meth:=fun _ _=>none,tags:=fun g=>has g tagL,argTags:=fun g=>has g argL,quiet:=fun g=>has g b4R,loose:=fun _=>false,ok:=fun g=>has g okL,cut:=cut,b4g:=b4g,a8j:=a8j,sep:=sep,mask:=mask,look:=fun g=>has g c25,frz:=fun g=>has g b6Y,slk:=slk,full:=true,intr:=b7T}
theorem c4X:b4F b2V okL=true:=by kernel_rfl
theorem c06:a9Z b2V:=by
 intro _ _ _ h
 cases h
theorem envOk0:a9A b2V:=⟨c06,b3Y tys,mixed,b0u (fun _ h=>h) c4X,(fun g h hg=>by simp only[b2V,b7T]at hg;first |(cases hg;done) |(split at hg<;>first |(cases hg;done) |(cases hg;exact b7i) |(cases hg;exact b9v))),(fun g pre post hg=>by simp only[b2V,b7T]at hg;first |(cases hg;done) |(split at hg<;>first |(cases hg;done) |(cases hg;exact a9F)))⟩
end Go.Proofs.YtcbjnilpecpbmaaGreatDoor
namespace Go.Proofs.YtcbjnilpecpbmaaGreatDoor.Aw
open Go Go.Vm
structure Flt where
 code:Int
 at_:Int
def c2v (x:Flt):List V:=[.i x.code,.i x.at_]
def a5D:List Flt->List V
 | []=>[]
 | x::r=>.i x.code :: .i x.at_::a5D r
theorem c4Y:a3d 2 c2v a5D:=⟨fun _=>rfl,rfl,fun _ _=>rfl⟩
structure Typ where
 kind:Int
 name:Str
 n:Int
 args:List Typ
mutual
def Typ.sub:Typ->List V
 |⟨_,_,_,a3⟩=>C9 a3
def C9:List Typ->List V
 | []=>[]
 | x::r=>.i x.kind :: .str x.name :: .i x.n :: .slice .sealed (List.length x.args) (x.sub)::C9 r
end
def c2w (x:Typ):List V:=[.i x.kind,.str x.name,.i x.n,.sl C9 x.args]
theorem c5b:a3d 4 c2w C9:=⟨fun _=>rfl,rfl,fun x r=>by cases x;rfl⟩
structure Nod where
 op:Int
 s:Str
 n:Int
 t:Typ
 ts:List Typ
 l:List Nod
 at_:Int
mutual
def Nod.sub:Nod->List V
 |⟨_,_,_,_,_,a5,_⟩=>D8 a5
def D8:List Nod->List V
 | []=>[]
 | x::r=>.i x.op :: .str x.s :: .i x.n :: .i x.t.kind :: .str x.t.name :: .i x.t.n :: .sl C9 x.t.args :: .sl C9 x.ts :: .slice .sealed (List.length x.l) (x.sub) :: .i x.at_::D8 r
end
def a9C (x:Nod):List V:=(c0 x.op x.s x.n x.t.kind x.t.name x.t.n (.sl C9 x.t.args) (.sl C9 x.ts) (.sl D8 x.l) x.at_)
theorem c4Z:a3d 10 a9C D8:=⟨fun _=>rfl,rfl,fun x r=>by cases x;rfl⟩
end Go.Proofs.YtcbjnilpecpbmaaGreatDoor.Aw
namespace Go.Proofs.YtcbjnilpecpbmaaGreatDoor.Aw
open Go Go.Vm
def T:List (Nat×Ty):=[
 (1,⟨.func,1,8,[.nilFunc]⟩),
 (2,⟨.int .i64,1,8,[.i 0]⟩),
 (3,⟨.int .i64,1,8,[.i 0]⟩),
 (4,⟨.bool,1,1,[.bool false]⟩),
 (5,⟨.int .u8,1,1,[.int .u8 0]⟩),
 (9,⟨.string,1,16,[.str []]⟩),
 (24,⟨.slice 26,1,24,[.slice .nil 0 []]⟩),
 (26,⟨.struct [(3,0),(9,1),(3,2),(24,3)],4,56,[.i 0,.str [],.i 0,.slice .nil 0 []]⟩),
 (27,⟨.slice 29,1,24,[.slice .nil 0 []]⟩),
 (29,⟨.struct [(3,0),(9,1),(3,2),(26,3),(24,7),(27,8),(3,9)],10,144,[.i 0,.str [],.i 0,.i 0,.str [],.i 0,.slice .nil 0 [],.slice .nil 0 [],.slice .nil 0 [],.i 0]⟩),
 (30,⟨.slice 39,1,24,[.slice .nil 0 []]⟩),
 (36,⟨.ptr 44,1,8,[.nilptr]⟩),
 (37,⟨.int .i64,1,8,[.i 0]⟩),
 (39,⟨.struct [(37,0),(3,1)],2,16,[.i 0,.i 0]⟩),
 (42,⟨.slice 59,1,24,[.slice .nil 0 []]⟩),
 (44,⟨.struct [(42,0),(3,1),(3,2)],3,40,[.slice .nil 0 [],.i 0,.i 0]⟩),
 (59,⟨.struct [(3,0),(9,1),(3,2),(3,3)],4,40,[.i 0,.str [],.i 0,.i 0]⟩),
 (65,⟨.slice 5,1,24,[.slice .nil 0 []]⟩),
 (68,⟨.ptr 71,1,8,[.nilptr]⟩),
 (69,⟨.slice 9,1,24,[.slice .nil 0 []]⟩),
 (71,⟨.struct [(69,0)],1,24,[.slice .nil 0 []]⟩),
 (72,⟨.func,1,8,[.nilFunc]⟩),
 (74,⟨.iface,1,16,[.nilIface]⟩),
 (80,⟨.struct [(39,0)],2,16,[.i 0,.i 0]⟩),
 (86,⟨.slice 3,1,24,[.slice .nil 0 []]⟩),
 (100,⟨.map 3 9,1,8,[.opq]⟩),
 (102,⟨.func,1,8,[.nilFunc]⟩),
 (105,⟨.ptr 109,1,8,[.nilptr]⟩),
 (107,⟨.struct [(9,0),(3,1)],2,24,[.str [],.i 0]⟩),
 (109,⟨.struct [(107,0),(42,2),(39,3)],5,64,[.str [],.i 0,.slice .nil 0 [],.i 0,.i 0]⟩),
 (114,⟨.func,1,8,[.nilFunc]⟩),
 (137,⟨.ptr 107,1,8,[.nilptr]⟩),
 (140,⟨.array 32 9,32,512,[.str [],.str [],.str [],.str [],.str [],.str [],.str [],.str [],.str [],.str [],.str [],.str [],.str [],.str [],.str [],.str [],.str [],.str [],.str [],.str [],.str [],.str [],.str [],.str [],.str [],.str [],.str [],.str [],.str [],.str [],.str [],.str []]⟩),
 (142,⟨.array 27 9,27,432,[.str [],.str [],.str [],.str [],.str [],.str [],.str [],.str [],.str [],.str [],.str [],.str [],.str [],.str [],.str [],.str [],.str [],.str [],.str [],.str [],.str [],.str [],.str [],.str [],.str [],.str [],.str []]⟩),
 (150,⟨.slice 157,1,24,[.slice .nil 0 []]⟩),
 (157,⟨.struct [(69,0),(4,1)],2,32,[.slice .nil 0 [],.bool false]⟩),
 (182,⟨.array 24 5,24,24,[.int .u8 0,.int .u8 0,.int .u8 0,.int .u8 0,.int .u8 0,.int .u8 0,.int .u8 0,.int .u8 0,.int .u8 0,.int .u8 0,.int .u8 0,.int .u8 0,.int .u8 0,.int .u8 0,.int .u8 0,.int .u8 0,.int .u8 0,.int .u8 0,.int .u8 0,.int .u8 0,.int .u8 0,.int .u8 0,.int .u8 0,.int .u8 0]⟩),
 (183,⟨.int .u64,1,8,[.int .u64 0]⟩),
 (203,⟨.int .i64,1,8,[.i 0]⟩)]
def keep:Nat->Nat->List Nat
 | 6,7=>[2,4,6,7,8]
 | 17,3=>[2,3,9,10,11]
 | 26,13=>[0,48,49,50]
 | 26,21=>[0,69,70,71]
 | 26,37=>[0,118,119,120]
 | 40,4=>[0,3]
 | 59,3=>[1,5,11,12,13]
 | 59,6=>[1,5,7,11,12,13,17,18,19]
 | 62,5=>[0,3,23,24,25]
 | 62,15=>[0,52,53,54]
 | 67,2=>[0,1,2,7]
 | 71,8=>[0,2,3]
 | 72,4=>[0,3]
 | 78,2=>[0,1,7,8]
 | 100,1=>[0,2,8,9,10]
 | 103,3=>[0,10,11,12]
 | 111,0=>[0]
 | 120,3=>[0,3,4]
 | 122,5=>[0,3]
 | 124,5=>[0,1,4,5,6]
 | 124,9=>[0,1,4,7]
 | 125,2=>[0,3]
 | 130,40=>[0,140,141,142]
 | 135,2=>[0,1,5]
 | 139,2=>[0,1,5,6]
 | 168,3=>[0,2,6,7,14,15]
 | 168,6=>[0,2,6,7,9,14,15]
 | 178,4=>[0,2,3,4]
 | 186,27=>[0,2,3]
 | 193,10=>[5,6,47,48,49]
 | _,_=>[]
def cut:Nat->Nat->Bool
 | _,_=>false
def b5g:List Nat:=[11,12,14,15,17,26,28,31,33,36,37,38,39,40,43,57,58,59,62,63,64,67,68,70,71,72,73,74,75,76,100,103,104,105,106,111,112,114,117,119,120,121,122,123,124,125,130,131,134,135,138,139,140,141,142,144,152,159,166,167,168,177,178,185,186,193]
def b4g:Nat->Nat->Bool
 | f,_=>has f b5g
def a8j:Nat->Nat->Bool
 | f,_=>has f b5g
def slk:Nat->Nat->List (Nat×Nat)
 | _,_=>[]
def sep:Nat->Nat->Option (List Nat×List Nat)
 | 6,3=>some ([0,1,2,3,4],[5,1000002])
 | 11,2=>some ([0,1,2,3,5,4,6,7],[5])
 | 15,12=>some ([0,1,2,3,4,5,6],[30])
 | 15,22=>some ([0,1,2,3,4,5,6],[64])
 | 15,27=>some ([0,1,2,3,4,5,6],[79])
 | 33,3=>some ([0,1,2,3,4,5,6,7,8,9,10,11,12,13],[32,28,24])
 | 36,3=>some ([0,1,2,3,4,5,6,7],[7])
 | 70,5=>some ([0,1,2,3,4,5,6],[15])
 | 70,13=>some ([0,1,2,3,4,5,6],[41])
 | 74,3=>some ([0,1,2,3,4,5,6,7,8,9,10,11],[20,18,14])
 | 124,11=>some ([0,2,3,1,4,5],[7])
 | 142,18=>some ([0,1,2,3,4,5,6,7],[56])
 | 142,37=>some ([0,1,2,3,4,5,6,7],[112])
 | 142,45=>some ([0,1,2,3,4,5,6,7],[144])
 | 168,7=>some ([0,1,2,3,4,5,6,7,8,9,10,11,12,13,14,15],[77,75,72,68])
 | 168,9=>some ([0,1,3,4,5,6,2,7,8,9],[])
 | 178,5=>some ([0,2,3,4,5,1,6,7,8],[4,17])
 | 178,8=>some ([0,1,2,3,4,5,6],[25])
 | 178,12=>some ([0,1,2,3,4,5,6,7],[38,36])
 | 178,14=>some ([0,1,2,3,4,5,6],[48])
 | 186,26=>some ([0,1,2,3,4,5,6,7],[77])
 | 186,28=>some ([0,1,2,3,4,5,6,7],[86])
 | _,_=>none
def mask:Nat->Nat->List Nat
 | 6,3=>[0,0,2,1,15]
 | 11,2=>[0,0,2,7,15,0,31,127]
 | 15,12=>[0,1,0,4,15,31,63]
 | 15,22=>[0,1,0,4,15,31,63]
 | 15,27=>[0,1,0,4,15,31,63]
 | 33,3=>[0,1,3,7,0,16,48,112,0,496,1023,2047,0,8191]
 | 36,3=>[0,1,0,4,12,31,63,127]
 | 70,5=>[0,1,0,4,15,31,63]
 | 70,13=>[0,1,0,4,15,31,63]
 | 74,3=>[0,1,3,7,0,16,48,112,255,511,0,2047]
 | 124,11=>[0,1,0,4,15,31]
 | 142,18=>[0,1,0,4,12,31,63,127]
 | 142,37=>[0,1,0,4,12,31,63,127]
 | 142,45=>[0,1,0,4,12,31,63,127]
 | 168,7=>[0,1,3,7,0,16,48,112,255,511,1023,0,2048,8191,0,32767]
 | 168,9=>[0,0,2,0,0,16,56,127,0,511]
 | 178,5=>[0,1,0,4,0,16,63,0,255]
 | 178,8=>[0,1,0,4,15,31,63]
 | 178,12=>[0,1,0,4,0,16,63,127]
 | 178,14=>[0,1,0,4,15,31,63]
 | 186,26=>[0,1,0,4,12,31,63,127]
 | 186,28=>[0,1,0,4,12,31,63,127]
 | _,_=>[]
def okL:List Nat:=[5,6,11,12,14,15,17,26,28,31,33,36,37,38,39,40,43,44,57,58,59,62,63,64,67,68,70,71,72,73,74,75,76,78,100,103,104,105,106,111,112,114,116,117,118,119,120,121,122,123,124,125,130,131,133,134,135,137,138,139,140,141,142,144,152,159,166,167,168,172,177,178,182,185,186,189,193,200]
def c25:List Nat:=[12]
def b4R:List Nat:=[5,6,10,44,78,116,118,133,137,172,182,189,200]
def b6Y:List Nat:=[]
def tagL:List Nat:=[]++b5g
def argL:List Nat:=[]++b5g
theorem tys:tysB Tryz.prog T=true:=by kernel_rfl
theorem mixed:Tryz.prog.follows .mixedOrders=true:=by kernel_rfl
def b7T:Nat->Option Hand
 | 66=>some (.plain b9V)
 | 13=>some (.via gPre b9Q)
 | _=>none
noncomputable def b2V:Env:={P:=Tryz.prog,T:=T,keep:=keep,byref:=fun _ _=>none,meth:=fun _ _=>none,tags:=fun g=>has g tagL,argTags:=fun g=>has g argL,quiet:=fun g=>has g b4R,loose:=fun _=>false,ok:=fun g=>has g okL,cut:=cut,b4g:=b4g,a8j:=a8j,sep:=sep,mask:=mask,look:=fun g=>has g c25,frz:=fun g=>has g b6Y,slk:=slk,full:=true,intr:=b7T}
theorem c4X:b4F b2V okL=true:=by kernel_rfl
theorem c06:a9Z b2V:=by
 intro _ _ _ h
 cases h
theorem envOk0:a9A b2V:=⟨c06,b3Y tys,mixed,b0u (fun _ h=>h) c4X,(fun g h hg=>by simp only[b2V,b7T]at hg;first |(cases hg;done) |(split at hg<;>first |(cases hg;done) |(cases hg;exact b7i))),(fun g pre post hg=>by simp only[b2V,b7T]at hg;first |(cases hg;done) |(split at hg<;>first |(cases hg;done) |(cases hg;exact a9F)))⟩
end Go.Proofs.YtcbjnilpecpbmaaGreatDoor.Aw
namespace Go.Vm
open Go
variable {env:Env}
def rho0:Rho:=⟨fun _=>none,fun _ _=>none⟩
def lab0:Lab:=fun _ _=>none
theorem rho0_le (ρ:Rho):rho0.le ρ:=⟨fun _ _ h=>(by cases h),fun _ _ _ h=>(by cases h)⟩
def b68 (B:Nat):Rho:=⟨fun k=>if k=0 then some (some (B,0),none)else none,fun k n=>if k=1/\n=0 then some (none,0)else none⟩
def a4q (B:Nat):Lab:=fun b o=>if b=B/\o=0 then some (some 0)else none
def hp1:Hp:=[(0,.row [.slice (.tag 1) 0 []]),(1,.tip 0 0)]
theorem old_rel {w0 w:World}{B:Nat}(hB:w0.heap.size<=B)(hk:∀b,b<w0.heap.size->w.heap[b]? = w0.heap[b]?){v:V}{x:Value}(h:Rel rho0 lab0 w0 v x):Rel (b68 B) (a4q B) w v x:=by
 have h1:Rel rho0 (a4q B) w v x:=by
  refine h.carry fun b o x h=>?_
  have hb:=a0R h.cell
  refine⟨?_,?_⟩
  ·simp only[a4q]
   rw[if_neg (by omega)]
  ·simp only[cellAt,World.cell?,hk b hb]
   exact h.cell
 exact h1.ext (Ext.refl _ _) (rho0_le _)
theorem sim1 {w:World}{B:Nat}(hc:w.cell? ⟨B,0,none⟩=some (.slice none 0 0))(hz:w.frozen? ⟨B,0,none⟩=false):Sim (b68 B) (a4q B) hp1 w where
 row:=fun k cs h=>by
  have:k=0/\cs=[.slice (.tag 1) 0 []]:=by
   simp only[hp1,hget]at h
   split at h
   ·rename_i hb;cases h;exact⟨(Nat.eq_of_beq_eq_true hb).symm,rfl⟩
   ·split at h
    ·cases h
    ·cases h
  obtain⟨rfl,rfl⟩:=this
  refine⟨B,0,[.slice none 0 0],by simp[b68],?_,fun i x hx=>?_⟩
  ·refine H6.2 ⟨_,_,rfl,.slice _ 0 [] [] 0 0 none 0 rfl (Nat.le_refl _) (fun h=>by omega) (fun _=>rfl) (fun i x h=>by simp at h) (fun i v x h=>by simp at h) (by simp[b68]) (by simp) (by simp),⟨rfl,by simp⟩⟩
  ·match i,hx with
   | 0,hx =>
    cases hx
    exact⟨⟨by simp[a4q],hz,_,hc⟩,hc⟩
   | i+1,hx=>simp at hx
 grow:=fun k e cs h=>by
  simp only[hp1,hget]at h
  split at h
  ·cases h
  ·split at h<;>cases h
 tip:=fun k e n h=>by
  have:k=1/\e=0/\n=0:=by
   simp only[hp1,hget]at h
   split at h
   ·cases h
   ·split at h
    ·rename_i hb;cases h;exact⟨(Nat.eq_of_beq_eq_true hb).symm,rfl,rfl⟩
    ·cases h
  obtain⟨rfl,rfl,rfl⟩:=this
  exact⟨none,0,by simp[b68],Nat.le_refl _,fun _=>rfl,fun _=>rfl,fun a h=>by cases h⟩
 mp:=fun k es h=>by
  simp only[hp1,hget]at h
  split at h
  ·cases h
  ·split at h<;>cases h
 hdom:=fun k n x h=>by
  simp only[b68]at h
  split at h
  ·rename_i hk
   obtain⟨rfl,rfl⟩:=hk
   exact⟨0,0,rfl,Nat.le_refl _⟩
  ·cases h
 adom:=fun k x h=>by
  simp only[b68]at h
  split at h
  ·rename_i hk
   subst hk
   simp[hp1,hget]
  ·cases h
 ldom:=fun b o k h=>by
  simp only[a4q]at h
  split at h
  ·rename_i hb
   obtain⟨rfl,rfl⟩:=hb
   exact a0R hc
  ·cases h
theorem b5Q {w w':World}{B:Nat}{lab':Lab}(E:Ext (a4q B) w lab' w'):Wrote B w w' :=
 ⟨E.size,E.os,E.tape,E.output,fun b hb hn=>E.blk b hb (fun o k h=>by
  simp only[a4q]at h
  rw[if_neg (fun h=>hn h.1)]at h
  cases h)⟩
theorem c8g (hE:a9A env){g1 g2:Nat}{c:V}{H1 H2:Hp}{s:List UInt8}
  (h1:E env (.call g1 [.ptr 0 0,c]) hp1=some (.ret (.tuple []) H1)) (h2:E env (.call g2 [.ptr 0 0]) H1=some (.ret (.str s) H2))
  {w0 w:World} {B:Nat} (hB:w0.heap.size<=B) (hk:∀b,b<w0.heap.size->w.heap[b]? = w0.heap[b]?) (hc:w.cell? ⟨B,0,none⟩=some (.slice none 0 0)) (hz:w.frozen? ⟨B,0,none⟩=false) {x:Value} (hx:Rel rho0 lab0 w0 c x) :
  Calls env.P g1 #[.pointer (some ⟨B,0,none⟩),x] w fun e w1=>e=.returned (.tuple #[])/\Wrote B w w1 /\
   Calls env.P g2 #[.pointer (some ⟨B,0,none⟩)] w1 fun e w2=>e=.returned (.string ⟨⟨s⟩⟩)/\Wrote B w w2:=by
 obtain⟨k1,hk1⟩:=(a2s env).at_ _ _ _ h1
 obtain⟨k2,hk2⟩:=(a2s env).at_ _ _ _ h2
 have hS:=sim1 hc hz
 have hp:Rel (b68 B) (a4q B) w (.ptr 0 0) (.pointer (some ⟨B,0+0,none⟩)):=.ptr 0 0 B 0 none (by simp[b68])
 have hL:J9 (b68 B) (a4q B) w [.ptr 0 0,c] [.pointer (some ⟨B,0,none⟩),x]:=H6.2 ⟨_,_,rfl,hp,H6.2 ⟨_,_,rfl,old_rel hB hk hx,⟨rfl,by simp⟩⟩⟩
 have C1:=(b8R hE k1).1.call g1 _ _ _ hk1 (b68 B) (a4q B) w _ ⟨rfl,rfl,trivial⟩ hS hL
 refine C1.mono fun e w1 hP=>?_
 cases e with
 | returned v =>
  obtain⟨ρ',lab',s1,s2,s3,s4,s5,s6⟩:=hP
  have hv:v=.tuple #[]:=by
   cases s4 with
   | tuple _ zs h1 h2 =>
    have:zs=[]:=by simpa using h1
    subst this;rfl
  refine⟨by rw[hv],b5Q s2,?_⟩
  have ha:ρ'.at_ 0=some (some (B,0),none):=s3.at_ 0 _ (by decide) (by simp[b68])
  have hp2:Rel ρ' lab' w1 (.ptr 0 0) (.pointer (some ⟨B,0+0,none⟩)):=.ptr 0 0 B 0 none ha
  have hL2:J9 ρ' lab' w1 [.ptr 0 0] [.pointer (some ⟨B,0,none⟩)]:=H6.2 ⟨_,_,rfl,hp2,⟨rfl,by simp⟩⟩
  have C2:=(b8R hE k2).1.call g2 _ _ _ hk2 ρ' lab' w1 _ s5 s1 hL2
  refine C2.mono fun e w2 hP=>?_
  cases e with
  | returned v2 =>
   obtain⟨ρ2,lab2,t1,t2,t3,t4,t5,t6⟩:=hP
   have hv2:v2=.string ⟨⟨s⟩⟩:=by cases t4;rfl
   exact⟨by rw[hv2],b5Q (s2.trans t2)⟩
  | panicked ch=>exact hP.elim
  | outgrown=>exact hP.elim
 | panicked ch=>exact hP.elim
 | outgrown=>exact hP.elim
end Go.Vm
namespace Go.Proofs.YtcbjnilpecpbmaaGreatDoor.Aw
open Go Go.Vm Go.RowKit Go.Lib
theorem nf_rel0 {ρ:Rho}{lab:Lab}{w:World}{v:V}{x:Value}(h:Rel ρ lab w v x)(hn:NF v):Rel rho0 lab0 w v x:=NF.rel (fun _ _ _=>rfl) h hn
theorem b0z {p:Prop}(h:p):Hid p:=h
def b55 (c:List V)(s:List UInt8):Prop:=∃H1 H2,E b2V (.call 26 [.ptr 0 0,.agg c]) hp1=some (.ret (.tuple []) H1)/\E b2V (.call 28 [.ptr 0 0]) H1=some (.ret (.str s) H2)
def printed (l:List (List UInt8)):List UInt8:=(l.map (· ++ [10])).flatten
theorem c1x {l:List (List UInt8)}{k:Nat}{s:List UInt8}(h:l[k]? = some s):printed (l.take (k+1))=printed (l.take k)++s++[10]:=by
 unfold printed
 rw[List.take_add_one,h]
 simp
theorem c5J (l:List (List UInt8))(k:Nat):(printed (l.take k)).length <=(printed l).length:=by
 have h:printed l=printed (l.take k)++printed (l.drop k):=by
  unfold printed
  rw[<-List.flatten_append,<-List.map_append,List.take_append_drop]
 rw[h,List.length_append];omega
theorem bld_kept {T e:TypeId}{B0 b:Nat}{bs:List Value}{w w':World}(h:IsBuilder T e B0 b bs w)(hk:∀k,k<w.heap.size->w'.heap[k]? = w.heap[k]?):IsBuilder T e B0 b bs w':=by
 have key:∀{p:Value},BuilderAt T e B0 b p bs w->BuilderAt T e B0 b p bs w':=by
  rintro p ⟨h1,v,h2,h3,h4⟩
  have hb:b<w.heap.size:=by
   rcases Nat.lt_or_ge b w.heap.size with h|h
   ·exact h
   ·rw[Array.getElem?_eq_none h]at h2;cases h2
  refine⟨h1,v,(hk b hb).trans h2,?_,h4⟩
  refine⟨h3.1,?_⟩
  rcases h3.2 with h5 |⟨g,cap,cur,h5,h6,h7,h8⟩
  ·exact .inl h5
  ·have hg:g<w.heap.size:=by
    rcases Nat.lt_or_ge g w.heap.size with h|h
    ·exact h
    ·rw[Array.getElem?_eq_none h]at h7;cases h7
   exact .inr ⟨g,cap,cur,h5,h6,(hk g hg).trans h7,h8⟩
 rcases h with h|h
 ·exact .inl (key h)
 ·exact .inr (key h)
theorem c2K (T e:TypeId)(B0:Nat)(w:World)(hB:B0<=w.heap.size):IsBuilder T e B0 w.heap.size [] (w.alloc (.cells #[.pointer none,.slice none 0 0] T)):=by
 have key:∀{p:Value},BuilderAt T e w.heap.size w.heap.size p [] (w.alloc (.cells #[.pointer none,.slice none 0 0] T))->BuilderAt T e B0 w.heap.size p [] (w.alloc (.cells #[.pointer none,.slice none 0 0] T)):=by
  rintro p ⟨h1,v,h2,h3,h4⟩
  refine⟨hB,v,h2,⟨h3.1,?_⟩,h4⟩
  rcases h3.2 with h5 |⟨g,cp,cur,h5,h6,r⟩
  ·exact .inl h5
  ·exact .inr ⟨g,cp,cur,h5,by omega,r⟩
 rcases fresh_isBuilder T e w with h|h
 ·exact .inl (key h)
 ·exact .inr (key h)
structure Kid (w:World)(b o:Nat)(s:List UInt8)(k:Nat):Prop where
 ex:∃c y0 y1 y2 y3 y4 y5 y6 y7 y8 y9,w.cell? ⟨b,o+k*10,none⟩=some y0/\w.cell? ⟨b,o+k*10+1,none⟩=some y1/\w.cell? ⟨b,o+k*10+2,none⟩=some y2/\w.cell? ⟨b,o+k*10+3,none⟩=some y3 /\
  w.cell? ⟨b,o+k*10+4,none⟩=some y4/\w.cell? ⟨b,o+k*10+5,none⟩=some y5/\w.cell? ⟨b,o+k*10+6,none⟩=some y6/\w.cell? ⟨b,o+k*10+7,none⟩=some y7/\w.cell? ⟨b,o+k*10+8,none⟩=some y8/\w.cell? ⟨b,o+k*10+9,none⟩=some y9 /\
  Rel rho0 lab0 w (.agg c) (.agg #[y0,y1,y2,y3,y4,y5,y6,y7,y8,y9])/\b55 c s /\ ∀y ∈ [y0,y1,y2,y3,y4,y5,y6,y7,y8,y9],y.oneCell'=true
theorem c4M {a b:Nat}{w w':World}(h:a<=b)(hB:Below b w w'):Below a w w':=⟨hB.os,hB.tape,hB.output,hB.size,fun k hk=>hB.block k (by omega)⟩
theorem c0s (w:World)(cs:Array Value)(t:TypeId)(i:Nat)(v:Value)(hi:i<cs.size)(hv:v.oneCell'=true):(store ⟨w.heap.size,i,none⟩ v).run Tryz.prog (w.alloc (.cells cs t))=.ok () (w.alloc (.cells (cs.setIfInBounds i v) t)):=by
 have h1:(w.alloc (.cells cs t)).cell? ⟨w.heap.size,i,none⟩=some cs[i]:=by simp[hi]
 have h2:(w.alloc (.cells cs t)).frozen? ⟨w.heap.size,i,none⟩=false:=by simp
 rw[run_store _ _ _ _ _ hv]
 simp[stored,go_sem,h1,h2,World.setCell_alloc_new]
theorem c5I (v0 v1 v2 v3 v4 v5 v6 v7 v9:Value)(ao:Option Addr)(b o cap:Nat)(l:List (List UInt8))(w:World)(hn:l.length<=cap)(hao:0<l.length->ao=some ⟨b,o,none⟩)
  (hb:0<l.length->b<w.heap.size) (hN:l.length<=140737488355328) (hK:∀(k:Nat) s,l[k]? = some s->Kid w b o s k) (hlen:(printed l).length<=140737488355328) :
  Calls Tryz.prog 10 #[.agg #[v0,v1,v2,v3,v4,v5,v6,v7,.slice ao l.length cap,v9]] w fun e w'=>e=.returned (.string ⟨(printed l).toArray⟩)/\Below w.heap.size w w':=by
 have HK:=b0z hK
 have Hlen:=b0z hlen
 have Hao:=b0z hao
 have Hb:=b0z hb
 clear hK hlen hao hb
 go_enter Tryz.func10,Tryz.ntmps10
 go_wp2_with fail
 go_loopw [10] (fun i wr=>∃k:Nat,k<=l.length/\i=.int .i64 k/\Hid (IsBuilder 67 5 w.heap.size (w.heap.size+1) (byteCells (printed (l.take k))) wr)/\Hid (Below w.heap.size w wr)) (fun i _=>l.length-(RowKit.intOf i).toNat)
 case atStart =>
  refine⟨0,Nat.zero_le _,rfl,b0z ?_,b0z ?_⟩
  ·have:=c2K 67 5 w.heap.size (w.alloc (.cells #[v0,v1,v2,v3,v4,v5,v6,v7,.slice ao l.length cap,v9] 29)) (by rw[World.size_alloc];omega)
   rw[World.size_alloc]at this
   exact this
  ·exact((Below.refl w.heap.size w).alloc (Nat.le_refl _) _).alloc (by rw[World.size_alloc];omega) _
 case round =>
  obtain⟨k,hk,rfl,HB,HW⟩:=hrel
  by_cases hkn:k<l.length
  ·obtain⟨s,hs⟩:∃s,l[k]? = some s:=⟨l[k],List.getElem?_eq_getElem hkn⟩
   have hao:=Hao.out (by omega)
   subst hao
   have hbw:=Hb.out (by omega)
   obtain⟨c,y0,y1,y2,y3,y4,y5,y6,y7,y8,y9,c0,c1,c2,c3,c4,c5,c6,c7,c8,c9,hr,hline,hone⟩:=(HK.out k s hs).ex
   have cc:∀j,wr.cell? ⟨b,j,none⟩=w.cell? ⟨b,j,none⟩:=fun j=>HW.out.cell (p:=⟨b,j,none⟩) hbw
   rw[<-cc]at c0 c1 c2 c3 c4 c5 c6 c7 c8 c9
   obtain⟨H1,H2,q1,q2⟩:=hline
   have Q1:=b0z q1
   have Q2:=b0z q2
   have HR:=b0z hr
   have Hs:=b0z hs
   have hBw:=HW.out.size
   clear q1 q2 hr hs cc
   go_wp2_with fail
   rw[c0s _ _ _ _ _ (by simp) (hone _ (by simp))]
   simp only[Result.andThen]
   repeat(rw[c0s _ _ _ _ _ (by simp) (hone _ (by simp))];simp only[Result.andThen])
   have hset:((((((((((#[Value.int .i64 0,.string {data:=#[]},.int .i64 0,.int .i64 0,.string {data:=#[]},.int .i64 0,.slice none 0 0,.slice none 0 0,.slice none 0 0,.int .i64 0].setIfInBounds 0 y0).setIfInBounds 1 y1).setIfInBounds 2 y2).setIfInBounds 3 y3).setIfInBounds 4 y4).setIfInBounds 5 y5).setIfInBounds 6 y6).setIfInBounds 7 y7).setIfInBounds 8 y8).setIfInBounds 9 y9) = #[y0,y1,y2,y3,y4,y5,y6,y7,y8,y9]:=by simp
   rw[hset]
   clear hset
   go_wp2_with fail
   have hsz:((wr.alloc (.cells #[y0,y1,y2,y3,y4,y5,y6,y7,y8,y9] 29)).alloc (.cells #[.slice none 0 0] 71)).heap.size=wr.heap.size+2:=by rw[World.size_alloc,World.size_alloc]
   have hold:∀j,j<wr.heap.size ->((wr.alloc (.cells #[y0,y1,y2,y3,y4,y5,y6,y7,y8,y9] 29)).alloc (.cells #[.slice none 0 0] 71)).heap[j]? = wr.heap[j]?:=fun j hj =>
    (alloc_old _ _ j (by rw[World.size_alloc];omega)).trans (alloc_old _ _ j hj)
   have hcW:((wr.alloc (.cells #[y0,y1,y2,y3,y4,y5,y6,y7,y8,y9] 29)).alloc (.cells #[.slice none 0 0] 71)).cell? ⟨wr.heap.size+1,0,none⟩=some (.slice none 0 0):=by
    have:=World.cell?_alloc_new (wr.alloc (.cells #[y0,y1,y2,y3,y4,y5,y6,y7,y8,y9] 29)) #[.slice none 0 0] 71 0
    rw[World.size_alloc]at this
    exact this
   have hzW:((wr.alloc (.cells #[y0,y1,y2,y3,y4,y5,y6,y7,y8,y9] 29)).alloc (.cells #[.slice none 0 0] 71)).frozen? ⟨wr.heap.size+1,0,none⟩=false:=by
    have:=World.frozen?_alloc_new (wr.alloc (.cells #[y0,y1,y2,y3,y4,y5,y6,y7,y8,y9] 29)) #[.slice none 0 0] 71 0
    rw[World.size_alloc]at this
    exact this
   refine(c8g envOk0 Q1.out Q2.out (w0:=w) (w:=((wr.alloc (.cells #[y0,y1,y2,y3,y4,y5,y6,y7,y8,y9] 29)).alloc (.cells #[.slice none 0 0] 71))) (B:=wr.heap.size+1) (by omega) (fun j hj=>(hold j (by omega)).trans (HW.out.block j hj)) hcW hzW HR.out).mono ?_
   rintro e w1 ⟨rfl,hw1,C2⟩
   have CC:=b0z C2
   clear C2 hcW hzW
   go_wp2_with fail
   refine CC.out.mono ?_
   rintro e w2 ⟨rfl,hw2⟩
   have hk2:∀j,j<wr.heap.size->w2.heap[j]? = wr.heap[j]?:=fun j hj=>(hw2.blk j (by omega) (by omega)).trans (hold j hj)
   have hs2:wr.heap.size<=w2.heap.size:=by have:=hw2.size;omega
   have hlen:=Hlen.out
   have hlk:=c5J l (k+1)
   have hpt:=c1x Hs.out
   rw[hpt,List.length_append,List.length_append,List.length_singleton]at hlk
   have HB2:=b0z (bld_kept HB.out hk2)
   have HW2:=b0z (⟨hw2.os,hw2.tape,hw2.output,hs2,fun j hj=>hk2 j (by omega)⟩:Below wr.heap.size wr w2)
   have Hpt:=b0z hpt
   clear hw1 hw2 hk2 CC hold hsz hpt
   go_wp2_with fail
   refine(Tryz.Builder_WriteString w.heap.size (w.heap.size+1) _ ⟨⟨s⟩⟩ w2 HB2.out (by rw[byteCells_length];simp only[ByteArray.size];simp;omega) (by omega)).mono ?_
   rintro e w3 ⟨rfl,h3,hb3⟩
   have H3:=b0z h3
   have Hb3:=b0z hb3
   clear h3 hb3
   go_wp2_with fail
   refine(Tryz.Builder_WriteByte w.heap.size (w.heap.size+1) _ 10 w3 (.inr H3.out) (by rw[List.length_append,byteCells_length,strCells_length];simp only[ByteArray.size];simp;omega) (by have:=Hb3.out.size;omega)).mono ?_
   rintro e w4 ⟨rfl,h4,hb4⟩
   have hnext:byteCells (printed (l.take k))++strCells ⟨⟨s⟩⟩++[.int .u8 10]=byteCells (printed (l.take (k+1))):=by
    rw[Hpt.out,strCells_eq,byteCells_append,byteCells_append]
    rfl
   rw[hnext]at h4
   have H4:=b0z (Or.inr h4:IsBuilder 67 5 w.heap.size (w.heap.size+1) _ w4)
   have Hb4:=b0z ((HW.out.trans (c4M hBw HW2.out)).trans (Hb3.out.trans hb4))
   clear h4 hb4 hnext
   go_wp2
   exact⟨⟨k+1,by omega,by go_num,H4,Hb4⟩,by simp[RowKit.intOf];omega⟩
  ·have hke:k=l.length:=by omega
   subst hke
   have hB':=HB.out
   rw[List.take_length]at hB'
   have hBw:=HW.out.size
   have HB2:=b0z hB'
   clear hB'
   go_wp2_with fail
   refine(Tryz.Builder_String_any w.heap.size (w.heap.size+1) _ wr HB2.out hBw).mono ?_
   rintro e w5 ⟨rfl,hb5⟩
   have Hb5:=b0z (HW.out.trans hb5)
   clear hb5
   go_wp2
   go_ret
   exact⟨rfl,Hb5.out⟩
theorem c5p {c:List V}{s s':List UInt8}(h:b55 c s)(g:b55 c s'):s=s':=by
 obtain⟨H1,H2,a1,a2⟩:=h
 obtain⟨K1,K2,b1,b2⟩:=g
 rw[a1]at b1
 cases b1
 rw[a2]at b2
 cases b2
 rfl
inductive Lines:List V->List (List UInt8)->Prop
 | nil:Lines [] []
 | cons (c r:List V) (s:List UInt8) (l:List (List UInt8)):c.length=10->b55 c s->Lines r l->Lines (c++r) (s::l)
theorem Lines.det {cs:List V}{l:List (List UInt8)}(h:Lines cs l):∀{l'},Lines cs l'->l=l':=by
 induction h with
 | nil =>
  intro l' g
  generalize hq:([]:List V)=q at g
  cases g with
  | nil=>rfl
  | cons c r s l h1 h2 h3 =>
   have:=congrArg List.length hq
   rw[List.length_append]at this
   simp at this
   omega
 | cons c r s l h1 h2 h3 ih =>
  intro l' g
  generalize hq:c++r=q at g
  cases g with
  | nil =>
   have:=congrArg List.length hq
   rw[List.length_append,h1]at this
   simp only[List.length_nil]at this
   omega
  | cons c' r' s' l'' g1 g2 g3 =>
   obtain⟨rfl,rfl⟩:=List.append_inj hq (by rw[h1,g1])
   rw[c5p h2 g2,ih g3]
theorem Lines.get {cs:List V}{l:List (List UInt8)}(h:Lines cs l):∀{k:Nat} {s:List UInt8},l[k]? = some s->b55 ((cs.drop (k*10)).take 10) s/\k*10+10<=cs.length:=by
 induction h with
 | nil=>intro k s h;simp at h
 | cons c r s0 l h1 h2 h3 ih =>
  intro k s hk
  cases k with
  | zero =>
   simp only[List.getElem?_cons_zero,Option.some.injEq]at hk
   subst hk
   refine⟨?_,by rw[List.length_append];omega⟩
   rw[Nat.zero_mul,List.drop_zero,List.take_append_of_le_length (by omega),List.take_of_length_le (by omega)]
   exact h2
  | succ k =>
   simp only[List.getElem?_cons_succ]at hk
   obtain⟨g1,g2⟩:=ih hk
   refine⟨?_,by rw[List.length_append];omega⟩
   rw[show(k+1)*10=c.length+k*10 from by omega,<-List.drop_drop,List.drop_left]
   exact g1
noncomputable def b4Q:List V->Hp->Option Out:=fun args H=>match args with
 | [.agg [_,_,_,_,_,_,_,_,.slice _ n cs,_]]=>@dite _ (∃l,Lines cs l/\l.length=n/\l.length<=140737488355328/\(printed l).length<=140737488355328) (Classical.propDecidable _) (fun h=>some (.ret (.str (printed h.choose)) H)) (fun _=>none)
 | _=>none
theorem c7P {c0 c1 c2 c3 c4 c5 c6 c7 c9:V}{ow:Own}{n:Nat}{cs:List V}{l:List (List UInt8)}{H:Hp}(h:Lines cs l)(hn:l.length=n)(hN:l.length<=140737488355328)(hl:(printed l).length<=140737488355328) :
  b4Q [.agg [c0,c1,c2,c3,c4,c5,c6,c7,.slice ow n cs,c9]] H=some (.ret (.str (printed l)) H):=by
 have hex:∃l,Lines cs l/\l.length=n/\l.length<=140737488355328/\(printed l).length<=140737488355328:=⟨l,h,hn,hN,hl⟩
 have he:hex.choose=l:=(h.det hex.choose_spec.1).symm
 simp only[b4Q]
 rw[dif_pos hex,he]
theorem ten {α:Type}(l:List α)(h:l.length=10):∃y0 y1 y2 y3 y4 y5 y6 y7 y8 y9,l=[y0,y1,y2,y3,y4,y5,y6,y7,y8,y9]:=by
 match l,h with
 | [y0,y1,y2,y3,y4,y5,y6,y7,y8,y9],_=>exact⟨_,_,_,_,_,_,_,_,_,_,rfl⟩
theorem print_ok:b2N Tryz.prog 10 b4Q:=by
 refine⟨fun args H out h ρ lab w xs hc hS hx=>?_,⟨_,_,Tryz.func10,rfl,rfl⟩⟩
 unfold b4Q at h
 split at h
 ·rename_i c0 c1 c2 c3 c4 c5 c6 c7 ow n cs c9
  split at h
  ·rename_i hex
   cases h
   obtain⟨hL,hn,hN,hlen⟩:=hex.choose_spec
   generalize hex.choose=l at hL hn hN hlen
   obtain⟨x1,r1,rfl,a1,a2⟩:=H6.1 hx
   have:r1=[]:=by have:=a2.1;simpa using this
   subst this
   cases a1 with
   | agg _ vs e1 e2 =>
   obtain⟨v0,v1,v2,v3,v4,v5,v6,v7,v8,v9,rfl⟩:=ten vs (by rw[e1];rfl)
   have q8:=e2 8 _ _ rfl rfl
   cases q8 with
   | slice _ _ _ ys b o ao cap g1 g2 g3 g4 g5 g6 g7 g8 g9 =>
   subst hn
   have K:=c5I v0 v1 v2 v3 v4 v5 v6 v7 v9 ao b o cap l w g2 g3 (fun h0=>?_) hN (fun k s hk=>⟨?_⟩) hlen
   ·refine K.mono fun e w' ⟨he,hw⟩=>?_
    subst he
    have G:a0Q w w':=⟨hw.size,hw.os,hw.tape,hw.output,fun b hb=>hw.block b hb⟩
    exact⟨ρ,lab,hS.grew G,G.ext lab,⟨fun _ _ _ h=>h,fun _ _ _ _ h=>h⟩,.str _,hc,Nat.le_refl _⟩
   ·obtain⟨_,h2⟩:=hL.get (List.getElem?_eq_getElem h0)
    have hy:0<ys.length:=by rw[g1];omega
    have:=g5 0 ys[0] (by simp[hy])
    exact a0R this.cell
   ·obtain⟨h1,h2⟩:=hL.get hk
    have hlen2:((ys.drop (k*10)).take 10).length=10:=by
     rw[List.length_take,List.length_drop,g1];omega
    obtain⟨y0,y1,y2,y3,y4,y5,y6,y7,y8,y9,hy⟩:=ten _ hlen2
    have get:∀j,j<10 -> ∀y,[y0,y1,y2,y3,y4,y5,y6,y7,y8,y9][j]? = some y->ys[k*10+j]? = some y:=by
     intro j hj y hyj
     rw[<-hy,List.getElem?_take,if_pos hj,List.getElem?_drop]at hyj
     exact hyj
    have cell:∀j,j<10 -> ∀y,[y0,y1,y2,y3,y4,y5,y6,y7,y8,y9][j]? = some y->w.cell? ⟨b,o+k*10+j,none⟩=some y:=by
     intro j hj y hyj
     have:=(g5 _ _ (get j hj y hyj)).cell
     rw[<-Nat.add_assoc]at this
     exact this
    refine⟨(cs.drop (k*10)).take 10,y0,y1,y2,y3,y4,y5,y6,y7,y8,y9,cell 0 (by omega) _ rfl,cell 1 (by omega) _ rfl,cell 2 (by omega) _ rfl,cell 3 (by omega) _ rfl,cell 4 (by omega) _ rfl,cell 5 (by omega) _ rfl,cell 6 (by omega) _ rfl,cell 7 (by omega) _ rfl,cell 8 (by omega) _ rfl,cell 9 (by omega) _ rfl,?_,h1,?_⟩
    ·refine .agg _ [y0,y1,y2,y3,y4,y5,y6,y7,y8,y9] ?_ (fun i v x hv hx=>?_)
     ·rw[List.length_take,List.length_drop]
      show 10=_
      omega
     ·have hi:i<10:=by
       rcases Nat.lt_or_ge i 10 with h|h
       ·exact h
       ·rw[List.getElem?_eq_none (by simpa using h)]at hx;cases hx
      rw[List.getElem?_take,if_pos hi,List.getElem?_drop]at hv
      exact nf_rel0 (g6 _ _ _ hv (get i hi x hx)) (g9 v (List.mem_of_getElem? hv))
    ·intro y hyy
     obtain⟨j,hj,rfl⟩:=List.mem_iff_getElem.1 hyy
     exact g8 _ (List.mem_of_getElem? (get j (by simpa using hj) _ (by simp[hj])))
  ·cases h
 ·cases h
end Go.Proofs.YtcbjnilpecpbmaaGreatDoor.Aw
namespace Go.Proofs.YtcbjnilpecpbmaaGreatDoor.Aw
open Go Go.Vm
noncomputable def b7U:Nat->Option Hand
 | 66=>some (.plain b9V)
 | 10=>some (.plain b4Q)
 | 13=>some (.via gPre b9Q)
 | _=>none
noncomputable def env:Env:={P:=Tryz.prog,T:=T,keep:=keep,byref:=fun _ _=>none,meth:=fun _ _=>none,tags:=fun g=>has g tagL,argTags:=fun g=>has g argL,quiet:=fun g=>has g b4R,loose:=fun _=>false,ok:=fun g=>has g okL,cut:=cut,b4g:=b4g,a8j:=a8j,sep:=sep,mask:=mask,look:=fun g=>has g c25,frz:=fun g=>has g b6Y,slk:=slk,full:=true,intr:=b7U}
theorem codes:b4F env okL=true:=by kernel_rfl
theorem b8b:a9Z env:=by
 intro _ _ _ h
 cases h
theorem b9F:a9A env:=⟨b8b,b3Y tys,mixed,b0u (fun _ h=>h) codes,(fun g h hg=>by simp only[env,b7U]at hg;first |(cases hg;done) |(split at hg<;>first |(cases hg;done) |(cases hg;exact b7i) |(cases hg;exact print_ok))),(fun g pre post hg=>by simp only[env,b7U]at hg;first |(cases hg;done) |(split at hg<;>first |(cases hg;done) |(cases hg;exact a9F)))⟩
end Go.Proofs.YtcbjnilpecpbmaaGreatDoor.Aw
