/- Texts of ParseParens, joined. -/
import Derived.Test.YtjhfloacokgdiaaGreatDoorParseParensJ10
import Derived.KernelRfl
import Derived.Test.YtjhfloacokgdiaaGreatDoorProg
import Derived.Tactics
import Derived.Tactics2
import Derived.Defers
import Derived.Recover
import Derived.Laws.Pointers
import Derived.BigCall
import Derived.BigGuard
set_option maxRecDepth 100000
set_option maxHeartbeats 20000000
set_option linter.unusedSimpArgs false
set_option linter.unusedVariables false
set_option linter.unusedSectionVars false
namespace Go.Proofs.YtjhfloacokgdiaaGreatDoor
open Go Go.Vm
theorem cell_lt {w:World}{b o:Nat}{x:Value}(h:w.cell? ⟨b,o,none⟩=some x):b<w.heap.size:=a0L h
theorem c1q (b o:Nat)(x y fa fb:Int)(u:Value)(older:List PanicEntry)(w:World)(h0:w.cell? ⟨b,o,none⟩=some (.int .i64 x))(h1:w.cell? ⟨b,o+1,none⟩=some (.int .i64 y))(z0:w.frozen? ⟨b,o,none⟩=false)(z1:w.frozen? ⟨b,o+1,none⟩=false) :
  CallsD Tryz.prog 41 #[.pointer (some ⟨b,o,none⟩)] (.panicking ({v:=.iface 87 (.agg #[.int .i64 fa,.int .i64 fb]),recovered:=false}::older)) w fun e u' w' =>
   e=.returned (.tuple #[])/\u'=.panicking ({v:=.iface 87 (.agg #[.int .i64 fa,.int .i64 fb]),recovered:=true}::older) /\
   w' =((w.setCell ⟨b,o,none⟩ (.int .i64 fa)).setCell ⟨b,o+1,none⟩ (.int .i64 fb)).alloc (.cells #[.int .i64 fa,.int .i64 fb] 87):=by
 refine callsD_of_wpS Tryz.func41 rfl fun c₀ cs hu=>?_
 apply wpS_seq
 apply wpS_region
 simp[wpOpsS,go_sem,recoverD,hu,Tryz.ntmps41,Exit.thenS]
 refine wpS_of_wp ?_
 go_wp2
 have hta:(Instr.typeAssert (.iface 87 (.agg #[.int .i64 fa,.int .i64 fb])) 20 87 true).run Tryz.prog w=.ok (.tuple #[.agg #[.int .i64 fa,.int .i64 fb],.bool true]) w:=by
  simp only[Instr.typeAssert,Sem.run_bind,run_underlying Tryz.underlying87,Result.andThen_ok]
  simp
 rw[hta]
 simp only[Result.andThen]
 rw[Oper.upon_value]
 have hb:=cell_lt h0
 have G:a0A w (w.alloc (.cells #[.int .i64 fa,.int .i64 fb] 87)):=a0A.push w _
 have a0:=(G.cell hb o).trans h0
 have a1:=(G.cell hb (o+1)).trans h1
 have y0:=(G.frozen hb o).trans z0
 have y1:=(G.frozen hb (o+1)).trans z1
 unfold cellAt at a0 a1
 have a2:((w.alloc (.cells #[.int .i64 fa,.int .i64 fb] 87)).setCell ⟨b,o,none⟩ (.int .i64 fa)).cell? ⟨b,o+1,none⟩=some (.int .i64 y):=(World.cell?_setCell_other _ _ _ _ (by simp)).trans a1
 have y2:((w.alloc (.cells #[.int .i64 fa,.int .i64 fb] 87)).setCell ⟨b,o,none⟩ (.int .i64 fa)).frozen? ⟨b,o+1,none⟩=false:=by simp[y1]
 go_wp2
 obtain⟨a₀,b₀,e₀,d₀,f₀,g₀,h₀⟩:=c₀
 subst hu
 simp[bodyPostS,results,Tryz.results41]
theorem c1p (p:Addr)(w:World) :
  CallsD Tryz.prog 41 #[.pointer (some p)] .returning w fun e u' w'=>e=.returned (.tuple #[])/\u'=.returning/\w'=w:=by
 refine callsD_of_wpS Tryz.func41 rfl fun c₀ cs hu=>?_
 apply wpS_seq
 apply wpS_region
 simp[wpOpsS,go_sem,recoverD,hu,Tryz.ntmps41,Exit.thenS]
 refine wpS_of_wp ?_
 go_wp2
 cases c₀
 simp_all [bodyPostS,results,Tryz.results41]
def gClo:List Nat:=[21,34,2]
def gPre:List V->Hp->Option (Nat×List V×Hp):=fun args H=>match args with
 | [.ptr _ _,.func (.func g) a c]=>gd (has g gClo) (some (g,a++c,a9L H))
 | _=>none
def b6Z:List V->Hp->Out->Option Out:=fun _ _ o=>match o with
 | .ret (.tuple []) H1=>some (.ret (.agg [.int .i64 0,.int .i64 0]) H1)
 | .pan (.iface t (.agg [.int .i64 a,.int .i64 b])) H1=>gd (Nat.beq t 87) (some (.ret (.agg [.int .i64 a,.int .i64 b]) H1))
 | _=>none
theorem c4y {g:Nat} (h:has g gClo=true):∃fn c,Tryz.prog.funcs[g]? = some fn/\(fn.name == "runtime.NumGoroutine")=false/\fn.body=some c:=by
 have:g=21∨g=34∨g=2:=by
  simp only[has,gClo]at h
  split at h
  ·exact .inl (Nat.eq_of_beq_eq_true (by assumption)).symm
  ·split at h
   ·exact .inr (.inl (Nat.eq_of_beq_eq_true (by assumption)).symm)
   ·split at h
    ·exact .inr (.inr (Nat.eq_of_beq_eq_true (by assumption)).symm)
    ·cases h
 rcases this with rfl|rfl|rfl
 ·exact⟨_,_,Tryz.func21,rfl,rfl⟩
 ·exact⟨_,_,Tryz.func34,rfl,rfl⟩
 ·exact⟨_,_,Tryz.func2,rfl,rfl⟩
theorem agg2 {ρ:Rho}{lab:Lab}{w:World}(a b:Int):∀(i:Nat) (v:V) (x:Value),[V.int .i64 a,.int .i64 b][i]? = some v->[Value.int .i64 a,.int .i64 b][i]? = some x->Rel ρ lab w v x
 | 0,_,_,h,g=>by cases h;cases g;exact .int _ _
 | 1,_,_,h,g=>by cases h;cases g;exact .int _ _
 | i+2,_,_,h,g=>by simp at h
theorem a7C:ViaOk Tryz.prog 20 gPre b6Z:=by
 refine⟨fun args H g' l H' o out hp ho ρ lab w xs hc hS hx hcall=>?_,⟨_,_,Tryz.func20,rfl,rfl⟩⟩
 unfold gPre at hp
 split at hp
 ·rename_i args0 r off g0 a c
  obtain⟨hg,hp⟩:=N7 hp
  cases hp
  obtain⟨x1,xr0,rfl,r1,r2⟩:=E9.1 hx
  obtain⟨x2,xr,rfl,r3,r4⟩:=E9.1 r2
  have:xr=[]:=by have:=r4.1;simpa using this
  subst this
  cases r3 with
  | func _ _ _ us ys u1 u2 u3 u4 =>
  obtain⟨fn,cd,k1,k2,k3⟩:=c4y hg
  have hrun:∀args w,(callFunc g' args).run Tryz.prog w=.ok (.enter g' args) w:=fun args w=>by
   have h1:fn.name ≠ "runtime.NumGoroutine":=by simpa using k2
   simp[callFunc,k1,h1,k3]
  have G:a0A w (w.alloc (.cells #[.int .i64 0,.int .i64 0] 38)):=a0A.push w _
  have hB:w.heap.size<(w.alloc (.cells #[.int .i64 0,.int .i64 0] 38)).heap.size:=by
   show w.heap.size<(w.heap.push _).size
   rw[Array.size_push];omega
  have hS1:=(hS.mine G hB).a9L
  have hl:K8 ρ lab w (a++c) (us++ys):=K8.append ⟨u1,u3⟩ ⟨u2,u4⟩
  have hl1:=hl.carry (mineF G)
  have hK:=hcall ρ _ _ (us++ys) (b3W _ _ hc) hS1 hl1
  have C0:(w.alloc (.cells #[.int .i64 0,.int .i64 0] 38)).cell? ⟨w.heap.size,0,none⟩=some (.int .i64 0):=by simp
  have C1:(w.alloc (.cells #[.int .i64 0,.int .i64 0] 38)).cell? ⟨w.heap.size,1,none⟩=some (.int .i64 0):=by simp
  have Z0:(w.alloc (.cells #[.int .i64 0,.int .i64 0] 38)).frozen? ⟨w.heap.size,0,none⟩=false:=by simp
  have Z1:(w.alloc (.cells #[.int .i64 0,.int .i64 0] 38)).frozen? ⟨w.heap.size,1,none⟩=false:=by simp
  have hmf:∀(fn:Fn) (first cap:Array Value) (w:World),(Instr.makeFunc fn first cap).run Tryz.prog w=.ok (.func fn first cap) w:=fun _ _ _ _=>rfl
  clear hcall hx r1 r2 r4 u3 u4 hl hl1 hS1
  generalize hw1:w.alloc (.cells #[.int .i64 0,.int .i64 0] 38)=w1 at *
  go_enter_defers Tryz.func20,Tryz.ntmps20
  go_wp2
  refine hK.mono ?_
  intro e w2 hP
  unfold b6Z at ho
  split at ho
  ·rename_i H1
   cases ho
   cases e with
   | returned x =>
    obtain⟨ρ',lab',s1,s2,s3,s4,s5,s6⟩:=hP
    have hx0:x=.tuple #[]:=by
     cases s4 with
     | tuple _ zs h1 h2 =>
      have:zs=[]:=by simpa using h1
      subst this;rfl
    subst hx0
    obtain⟨d0,e0⟩:=b1h s2 hB 0
    obtain⟨d1,e1⟩:=b1h s2 hB 1
    have d0:=d0.trans C0
    have d1:=d1.trans C1
    have E:=Ext.left hS G hB s2 (Wrote.refl _ w2)
    have S:=s1.left (fun p hp=>(hS.kp.1 p hp).1) s2 (Wrote.refl _ w2)
    unfold cellAt at d0 d1
    go_wp2
    refine leaves_cons (f:=41) (args:=#[.pointer (some ⟨w.heap.size,0,none⟩)]) (by simp) (by simp[go_sem]) ?_
    refine(c1p ⟨w.heap.size,0,none⟩ _).mono ?_
    rintro e u' w'' ⟨rfl,rfl,rfl⟩
    simp[Leaves,settle,results,Tryz.results20,go_sem,d0,d1]
    rw[a9x]at s3 s6
    exact⟨ρ',_,S,E,s3,.agg _ [.int .i64 0,.int .i64 0] rfl (agg2 _ _),s5,s6⟩
   | panicked ch=>exact hP.elim
   | outgrown=>exact hP.elim
  ·rename_i t fa fb H1
   obtain⟨ht,ho⟩:=N7 ho
   cases ho
   have ht:=Nat.eq_of_beq_eq_true ht
   subst ht
   cases e with
   | returned x=>exact hP.elim
   | panicked ch =>
    obtain⟨x,rfl,ρ',lab',s1,s2,s3,s4,s5,s6⟩:=hP
    obtain⟨xv,rfl,s7⟩:∃xv,x=.iface 87 xv/\xv=.agg #[.int .i64 fa,.int .i64 fb]:=by
     cases s4 with
     | iface _ _ xv h =>
      refine⟨xv,rfl,?_⟩
      cases h with
      | agg _ zs h1 h2 =>
       match zs,h1,h2 with
       | [z0,z1],_,h2 =>
        have q0:=h2 0 _ z0 rfl rfl
        have q1:=h2 1 _ z1 rfl rfl
        cases q0;cases q1;rfl
    subst s7
    obtain⟨d0,e0⟩:=b1h s2 hB 0
    obtain⟨d1,e1⟩:=b1h s2 hB 1
    have d0:=d0.trans C0
    have d1:=d1.trans C1
    have e0:=e0.trans Z0
    have e1:=e1.trans Z1
    unfold cellAt at d0 d1
    have hsz:w.heap.size<w2.heap.size:=Nat.lt_of_lt_of_le hB s2.size
    have hW:Wrote w.heap.size w2 (((w2.setCell ⟨w.heap.size,0,none⟩ (.int .i64 fa)).setCell ⟨w.heap.size,0+1,none⟩ (.int .i64 fb)).alloc (.cells #[.int .i64 fa,.int .i64 fb] 87)):=by
     refine⟨?_,rfl,rfl,rfl,fun b hb hn=>?_⟩
     ·refine Nat.le_trans ?_ (a0A.push _ _).size
      rw[World.size_setCell,World.size_setCell]
      exact Nat.le_refl _
     ·refine((a0A.push _ _).blk b (by rw[World.size_setCell,World.size_setCell];exact hb)).trans ?_
      rw[heap_setCell_other _ _ _ _ hn,heap_setCell_other _ _ _ _ hn]
    have c0:(w2.setCell ⟨w.heap.size,0,none⟩ (.int .i64 fa)).cell? ⟨w.heap.size,0+1,none⟩=some (.int .i64 0):=(World.cell?_setCell_other _ _ _ _ (by simp)).trans d1
    have f1:((w2.setCell ⟨w.heap.size,0,none⟩ (.int .i64 fa)).setCell ⟨w.heap.size,0+1,none⟩ (.int .i64 fb)).cell? ⟨w.heap.size,0+1,none⟩=some (.int .i64 fb):=World.cell?_setCell_same _ _ _ c0
    have f0:((w2.setCell ⟨w.heap.size,0,none⟩ (.int .i64 fa)).setCell ⟨w.heap.size,0+1,none⟩ (.int .i64 fb)).cell? ⟨w.heap.size,0,none⟩=some (.int .i64 fa):=(World.cell?_setCell_other _ _ _ _ (by simp)).trans (World.cell?_setCell_same _ _ _ d0)
    have hsz2:w.heap.size<((w2.setCell ⟨w.heap.size,0,none⟩ (.int .i64 fa)).setCell ⟨w.heap.size,0+1,none⟩ (.int .i64 fb)).heap.size:=by rw[World.size_setCell,World.size_setCell];exact hsz
    have GT:a0A _ (((w2.setCell ⟨w.heap.size,0,none⟩ (.int .i64 fa)).setCell ⟨w.heap.size,0+1,none⟩ (.int .i64 fb)).alloc (.cells #[.int .i64 fa,.int .i64 fb] 87)):=a0A.push _ _
    have f0:=(GT.cell hsz2 0).trans f0
    have f1:=(GT.cell hsz2 (0+1)).trans f1
    unfold cellAt at f0 f1
    simp only[Nat.zero_add]at f0 f1
    have E:=Ext.left hS G hB s2 hW
    have S:=s1.left (fun p hp=>(hS.kp.1 p hp).1) s2 hW
    go_wp2
    refine leaves_cons (f:=41) (args:=#[.pointer (some ⟨w.heap.size,0,none⟩)]) (by simp) (by simp[go_sem]) ?_
    refine(c1q w.heap.size 0 0 0 fa fb .nilIface [] w2 d0 d1 e0 e1).mono ?_
    rintro e u' w'' ⟨rfl,rfl,rfl⟩
    simp[Leaves,settle,results,Tryz.results20,go_sem,f0,f1]
    rw[a9x]at s3 s6
    exact⟨ρ',_,S,E,s3,.agg _ [.int .i64 fa,.int .i64 fb] rfl (agg2 _ _),s5,s6⟩
   | outgrown=>exact hP.elim
  ·cases ho
 ·cases hp
end Go.Proofs.YtjhfloacokgdiaaGreatDoor
namespace Go.Proofs.YtjhfloacokgdiaaGreatDoor
open Go Go.Vm
def T:List (Nat×Ty):=[
 (1,⟨.func,1,8,[.nilFunc]⟩),
 (3,⟨.int .i64,1,8,[.i 0]⟩),
 (4,⟨.bool,1,1,[.bool false]⟩),
 (9,⟨.string,1,16,[.str []]⟩),
 (24,⟨.slice 26,1,24,[.slice .nil 0 []]⟩),
 (26,⟨.struct [(3,0),(9,1),(3,2),(24,3)],4,56,[.i 0,.str [],.i 0,.slice .nil 0 []]⟩),
 (27,⟨.slice 29,1,24,[.slice .nil 0 []]⟩),
 (29,⟨.struct [(3,0),(9,1),(3,2),(26,3),(24,7),(27,8),(3,9)],10,144,[.i 0,.str [],.i 0,.i 0,.str [],.i 0,.slice .nil 0 [],.slice .nil 0 [],.slice .nil 0 [],.i 0]⟩),
 (34,⟨.func,1,8,[.nilFunc]⟩),
 (36,⟨.int .i64,1,8,[.i 0]⟩),
 (38,⟨.struct [(36,0),(3,1)],2,16,[.i 0,.i 0]⟩),
 (41,⟨.slice 83,1,24,[.slice .nil 0 []]⟩),
 (46,⟨.ptr 50,1,8,[.nilptr]⟩),
 (50,⟨.struct [(41,0),(3,1),(3,2)],3,40,[.slice .nil 0 [],.i 0,.i 0]⟩),
 (61,⟨.ptr 64,1,8,[.nilptr]⟩),
 (62,⟨.slice 9,1,24,[.slice .nil 0 []]⟩),
 (64,⟨.struct [(62,0)],1,24,[.slice .nil 0 []]⟩),
 (65,⟨.func,1,8,[.nilFunc]⟩),
 (73,⟨.func,1,8,[.nilFunc]⟩),
 (83,⟨.struct [(3,0),(9,1),(3,2),(3,3)],4,40,[.i 0,.str [],.i 0,.i 0]⟩),
 (87,⟨.struct [(38,0)],2,16,[.i 0,.i 0]⟩),
 (96,⟨.func,1,8,[.nilFunc]⟩),
 (101,⟨.slice 126,1,24,[.slice .nil 0 []]⟩),
 (113,⟨.slice 3,1,24,[.slice .nil 0 []]⟩),
 (126,⟨.struct [(62,0),(4,1)],2,32,[.slice .nil 0 [],.bool false]⟩)]
def keep:Nat->Nat->List Nat
 | 5,130007=>[3,5,29]
 | 24,3=>[2,3,9,10,11]
 | 24,100010=>[2,3]
 | 32,4=>[0,1,2,14,15]
 | 32,100010=>[]
 | 33,4=>[0,1,2,14,15]
 | 33,100010=>[]
 | 56,3=>[1,5,11,12,13]
 | 56,6=>[1,5,7,11,12,13,17,18,19]
 | 56,100011=>[1,5,7,11,12,13,17,18,19]
 | 56,100012=>[1,5,11,12,13]
 | 56,100013=>[5]
 | 66,100007=>[0,2,3]
 | 68,3=>[0,2,6,7,14,15]
 | 68,6=>[0,2,6,7,9,14,15]
 | 68,100014=>[0,2,6,7,14,15]
 | 68,100015=>[6,7]
 | 68,190065=>[0,2,6,7,9,14,15,65]
 | 69,100005=>[0,4]
 | 72,2=>[0,3,7,8,9]
 | 72,100012=>[0,3,7,8,9]
 | 74,6=>[0,25,26,27]
 | 74,9=>[0,25,26,27,32,33,34]
 | 74,100014=>[0,25,26,27]
 | 74,100015=>[0]
 | 75,1=>[0,2,8,9,10]
 | 75,100006=>[0,2,7,8,9,10]
 | 93,8=>[0,2,3]
 | 93,100011=>[0,2,3]
 | 93,100012=>[0,2,3]
 | 99,2=>[0,1,7,8]
 | 99,100008=>[]
 | 101,1=>[0,2,8,9,10]
 | 101,100006=>[0,2,7,8,9,10]
 | 102,3=>[0,10,11,12]
 | 102,100008=>[0]
 | 112,4=>[0,2,3,4]
 | 112,100010=>[0,2,4,5]
 | 112,100017=>[0,2,4]
 | 116,40=>[0,140,141,142]
 | 116,100007=>[0,3]
 | 116,100011=>[0,3]
 | 116,100014=>[0]
 | 116,100047=>[0]
 | 116,100052=>[0]
 | 117,130008=>[0,3,9]
 | 129,5=>[0,3]
 | 129,100011=>[0,3,4]
 | 129,100016=>[0,3]
 | 131,5=>[0,1,4,5,6]
 | 131,9=>[0,1,4,7]
 | 131,100008=>[0,1,4,5,6]
 | 131,100009=>[0,1,4,5,6]
 | 131,100013=>[4,7]
 | 131,190038=>[0,1,4,7,38]
 | 132,2=>[0,3]
 | 132,100005=>[3]
 | 133,100006=>[1,2]
 | 139,27=>[0,2,3]
 | 139,100030=>[0,2,3]
 | 139,100037=>[2,3]
 | 140,5=>[0,3]
 | 140,100011=>[0,3]
 | 140,100012=>[0,3]
 | 146,100016=>[0,1,4,5]
 | 146,130004=>[0,1,4,5,6]
 | 146,130006=>[0,1,4,5,16]
 | 147,100005=>[0,2,3]
 | 147,100027=>[2,5]
 | 147,130008=>[0,2,23,24]
 | 150,5=>[0,2,3,4]
 | 152,3=>[0,2,3]
 | 152,100008=>[2,3]
 | 157,100006=>[0,2,3]
 | 157,100010=>[0,2,3,4]
 | 157,130011=>[0,2,3,30]
 | 158,100011=>[2,3,4]
 | 158,100012=>[2,3]
 | 159,5=>[0,2,3]
 | 159,100012=>[0,2,3]
 | 159,100017=>[0,2,3]
 | 161,1=>[1]
 | 161,100004=>[1]
 | 173,6=>[0,2,3]
 | 173,100009=>[0,2,3]
 | 173,100025=>[2,3]
 | _,_=>[]
def cut:Nat->Nat->Bool
 | 5,30007=>true
 | 24,10=>true
 | 32,10=>true
 | 33,10=>true
 | 56,11=>true
 | 56,12=>true
 | 56,13=>true
 | 66,7=>true
 | 68,14=>true
 | 68,15=>true
 | 68,90065=>true
 | 69,5=>true
 | 72,12=>true
 | 74,14=>true
 | 74,15=>true
 | 75,6=>true
 | 93,11=>true
 | 93,12=>true
 | 99,8=>true
 | 101,6=>true
 | 102,8=>true
 | 112,10=>true
 | 112,17=>true
 | 116,7=>true
 | 116,11=>true
 | 116,14=>true
 | 116,47=>true
 | 116,52=>true
 | 117,30008=>true
 | 129,11=>true
 | 129,16=>true
 | 131,8=>true
 | 131,9=>true
 | 131,13=>true
 | 131,90038=>true
 | 132,5=>true
 | 133,6=>true
 | 139,30=>true
 | 139,37=>true
 | 140,11=>true
 | 140,12=>true
 | 146,16=>true
 | 146,30004=>true
 | 146,30006=>true
 | 147,5=>true
 | 147,27=>true
 | 147,30008=>true
 | 152,8=>true
 | 157,6=>true
 | 157,10=>true
 | 157,30011=>true
 | 158,11=>true
 | 158,12=>true
 | 159,12=>true
 | 159,17=>true
 | 161,4=>true
 | 173,9=>true
 | 173,25=>true
 | _,_=>false
def b2Q:List Nat:=[]
def b1D:Nat->Nat->Bool
 | 46,8=>true
 | 129,0=>true
 | 160,8=>true
 | f,_=>has f b2Q
def a6p:Nat->Nat->Bool
 | f,_=>has f b2Q
def slk:Nat->Nat->List (Nat×Nat)
 | 68,6=>[(7,6),(7,7),(7,8)]
 | 68,100014=>[(7,6),(7,7),(7,8)]
 | 112,4=>[(4,6),(4,7)]
 | 112,100017=>[(4,8)]
 | 131,9=>[(7,3)]
 | 139,100037=>[(3,8)]
 | 152,3=>[(3,6),(3,7)]
 | _,_=>[]
def sep:Nat->Nat->Option (List Nat×List Nat)
 | 14,3=>some ([0,1,2,3],[5,1000002])
 | 14,7=>some ([0,1,2,3],[5,1000002])
 | 18,2=>some ([0,1,2,3,5,4,6,7],[5])
 | 42,3=>some ([0,1,2,3,4,5,6,7,8,9,10,11,12,13],[32,28,24])
 | 68,7=>some ([0,1,2,3,4,5,6,7,8,9,10,11,12,13,14,15],[77,75,72,68])
 | 68,9=>some ([0,1,3,4,5,6,2,7,8,9],[])
 | 96,3=>some ([0,1,2,3,4,5,6,7,8,9,10,11],[20,18,14])
 | 112,5=>some ([0,2,3,4,5,1,6,7,8],[4,17])
 | 112,8=>some ([0,1,2,3,4,5,6],[25])
 | 112,12=>some ([0,1,2,3,4,5,6,7],[38,36])
 | 112,14=>some ([0,1,2,3,4,5,6],[48])
 | 131,11=>some ([0,2,3,1,4,5],[7])
 | 139,26=>some ([0,1,2,3,4,5,6,7],[77])
 | 139,28=>some ([0,1,2,3,4,5,6,7],[86])
 | 147,18=>some ([0,1,2,3,4,5,6,7],[56])
 | 147,37=>some ([0,1,2,3,4,5,6,7],[112])
 | 147,45=>some ([0,1,2,3,4,5,6,7],[144])
 | 150,5=>some ([0,1,2,3,4,5,6,7],[16])
 | 158,4=>some ([0,1,2,3,4,5,6,7],[13])
 | 159,9=>some ([0,1,2,3,4,5,6,7],[32])
 | 159,14=>some ([0,1,2,3,4,5,6,7],[54])
 | 173,5=>some ([0,1,2,3,4,5,6,7],[14])
 | 173,7=>some ([0,1,2,3,4,5,6,7],[23])
 | _,_=>none
def mask:Nat->Nat->List Nat
 | 14,3=>[0,0,1,7]
 | 14,7=>[0,0,1,7]
 | 18,2=>[0,0,2,7,15,0,31,127]
 | 42,3=>[0,1,3,7,0,16,48,112,0,496,1023,2047,0,8191]
 | 68,7=>[0,1,3,7,0,16,48,112,255,511,1023,0,2048,8191,0,32767]
 | 68,9=>[0,0,2,0,0,16,56,127,0,511]
 | 96,3=>[0,1,3,7,0,16,48,112,255,511,0,2047]
 | 112,5=>[0,1,0,4,0,16,63,0,255]
 | 112,8=>[0,1,0,4,15,31,63]
 | 112,12=>[0,1,0,4,0,16,63,127]
 | 112,14=>[0,1,0,4,15,31,63]
 | 131,11=>[0,1,0,4,15,31]
 | 139,26=>[0,1,0,4,12,31,63,127]
 | 139,28=>[0,1,0,4,12,31,63,127]
 | 147,18=>[0,1,0,4,12,31,63,127]
 | 147,37=>[0,1,0,4,12,31,63,127]
 | 147,45=>[0,1,0,4,12,31,63,127]
 | 150,5=>[0,1,0,4,12,31,63,127]
 | 158,4=>[0,1,0,4,12,31,63,127]
 | 159,9=>[0,1,0,4,12,31,63,127]
 | 159,14=>[0,1,0,4,12,31,63,127]
 | 173,5=>[0,1,0,4,12,31,63,127]
 | 173,7=>[0,1,0,4,12,31,63,127]
 | _,_=>[]
def okL:List Nat:=[5,7,11,12,14,15,18,19,24,27,31,32,33,34,35,36,37,42,46,47,48,52,53,54,56,60,66,67,68,69,70,72,73,74,75,76,90,93,95,96,97,98,99,101,102,103,104,105,112,116,117,118,119,129,130,131,132,133,139,140,144,146,147,149,150,151,152,157,158,159,160,161,173]
def b91:List Nat:=[19]
def a9t:List Nat:=[5,7,8,11,12,14,15,16,24,30,31,32,33,40,53,56,67,71,73,99,113,119,146,161,162]
def b4m:List Nat:=[]
def tagL:List Nat:=[46,129,160]++b2Q
def argL:List Nat:=[]++b2Q
theorem tys:tysB Tryz.prog T=true:=by kernel_rfl
theorem mixed:Tryz.prog.follows .mixedOrders=true:=by kernel_rfl
def b5l:Nat->Option Hand
 | 40=>some (.plain b33)
 | 113=>some (.plain (a9D b9O))
 | 162=>some (.plain b9h)
 | 20=>some (.via gPre b6Z)
 | _=>none
noncomputable def b0l:Env:={P:=Tryz.prog,T:=T,keep:=keep,byref:=fun _ _=>none,meth:=fun _ _=>none,tags:=fun g=>has g tagL,argTags:=fun g=>has g argL,quiet:=fun g=>has g a9t,loose:=fun _=>false,ok:=fun g=>has g okL,cut:=cut,b1D:=b1D,a6p:=a6p,sep:=sep,mask:=mask,look:=fun g=>has g b91,frz:=fun g=>has g b4m,slk:=slk,full:=true,intr:=b5l}
theorem c1u:b0i b0l okL=true:=by kernel_rfl
theorem b8p:a6X b0l:=by
 intro _ _ _ h
 cases h
theorem envOk0:a6V b0l:=⟨b8p,a7R tys,mixed,a6R (fun _ h=>h) c1u,(fun g h hg=>by simp only[b0l,b5l]at hg;first |(cases hg;done) |(split at hg<;>first |(cases hg;done) |(cases hg;exact b4E) |(cases hg;exact b63) |(cases hg;exact b6J))),(fun g pre post hg=>by simp only[b0l,b5l]at hg;first |(cases hg;done) |(split at hg<;>first |(cases hg;done) |(cases hg;exact a7C)))⟩
end Go.Proofs.YtjhfloacokgdiaaGreatDoor
namespace Go.Proofs.YtjhfloacokgdiaaGreatDoor.Aw
open Go Go.Vm
structure Flt where
 code:Int
 at_:Int
def b9l (x:Flt):List V:=[.i x.code,.i x.at_]
def b1I:List Flt->List V
 | []=>[]
 | x::r=>.i x.code :: .i x.at_::b1I r
theorem c1x:a2b 2 b9l b1I:=⟨fun _=>rfl,rfl,fun _ _=>rfl⟩
structure Typ where
 kind:Int
 name:Str
 n:Int
 args:List Typ
mutual
def Typ.sub:Typ->List V
 |⟨_,_,_,a3⟩=>F3 a3
def F3:List Typ->List V
 | []=>[]
 | x::r=>.i x.kind :: .str x.name :: .i x.n :: .slice .sealed (List.length x.args) (x.sub)::F3 r
end
def b9m (x:Typ):List V:=[.i x.kind,.str x.name,.i x.n,.sl F3 x.args]
theorem c1A:a2b 4 b9m F3:=⟨fun _=>rfl,rfl,fun x r=>by cases x;rfl⟩
structure Nod where
 op:Int
 s:Str
 n:Int
 t:Typ
 ts:List Typ
 l:List Nod
 at_:Int
mutual
def Nod.sub:Nod->List V
 |⟨_,_,_,_,_,a5,_⟩=>H6 a5
def H6:List Nod->List V
 | []=>[]
 | x::r=>.i x.op :: .str x.s :: .i x.n :: .i x.t.kind :: .str x.t.name :: .i x.t.n :: .sl F3 x.t.args :: .sl F3 x.ts :: .slice .sealed (List.length x.l) (x.sub) :: .i x.at_::H6 r
end
def a7z (x:Nod):List V:=(c0 x.op x.s x.n x.t.kind x.t.name x.t.n (.sl F3 x.t.args) (.sl F3 x.ts) (.sl H6 x.l) x.at_)
theorem c1y:a2b 10 a7z H6:=⟨fun _=>rfl,rfl,fun x r=>by cases x;rfl⟩
end Go.Proofs.YtjhfloacokgdiaaGreatDoor.Aw
namespace Go.Proofs.YtjhfloacokgdiaaGreatDoor.Aw
open Go Go.Vm
def T:List (Nat×Ty):=[
 (1,⟨.func,1,8,[.nilFunc]⟩),
 (2,⟨.int .i64,1,8,[.i 0]⟩),
 (3,⟨.int .i64,1,8,[.i 0]⟩),
 (4,⟨.bool,1,1,[.bool false]⟩),
 (5,⟨.int .u8,1,1,[.int .u8 0]⟩),
 (9,⟨.string,1,16,[.str []]⟩),
 (24,⟨.slice 26,1,24,[.slice .nil 0 []]⟩),
 (26,⟨.struct [(3,0),(9,1),(3,2),(24,3)],4,56,[.i 0,.str [],.i 0,.slice .nil 0 []]⟩),
 (27,⟨.slice 29,1,24,[.slice .nil 0 []]⟩),
 (29,⟨.struct [(3,0),(9,1),(3,2),(26,3),(24,7),(27,8),(3,9)],10,144,[.i 0,.str [],.i 0,.i 0,.str [],.i 0,.slice .nil 0 [],.slice .nil 0 [],.slice .nil 0 [],.i 0]⟩),
 (30,⟨.slice 38,1,24,[.slice .nil 0 []]⟩),
 (36,⟨.int .i64,1,8,[.i 0]⟩),
 (38,⟨.struct [(36,0),(3,1)],2,16,[.i 0,.i 0]⟩),
 (41,⟨.slice 83,1,24,[.slice .nil 0 []]⟩),
 (46,⟨.ptr 50,1,8,[.nilptr]⟩),
 (50,⟨.struct [(41,0),(3,1),(3,2)],3,40,[.slice .nil 0 [],.i 0,.i 0]⟩),
 (58,⟨.slice 5,1,24,[.slice .nil 0 []]⟩),
 (61,⟨.ptr 64,1,8,[.nilptr]⟩),
 (62,⟨.slice 9,1,24,[.slice .nil 0 []]⟩),
 (64,⟨.struct [(62,0)],1,24,[.slice .nil 0 []]⟩),
 (65,⟨.func,1,8,[.nilFunc]⟩),
 (67,⟨.iface,1,16,[.nilIface]⟩),
 (76,⟨.ptr 80,1,8,[.nilptr]⟩),
 (78,⟨.struct [(9,0),(3,1)],2,24,[.str [],.i 0]⟩),
 (80,⟨.struct [(78,0),(41,2),(38,3)],5,64,[.str [],.i 0,.slice .nil 0 [],.i 0,.i 0]⟩),
 (83,⟨.struct [(3,0),(9,1),(3,2),(3,3)],4,40,[.i 0,.str [],.i 0,.i 0]⟩),
 (87,⟨.struct [(38,0)],2,16,[.i 0,.i 0]⟩),
 (94,⟨.map 3 9,1,8,[.opq]⟩),
 (96,⟨.func,1,8,[.nilFunc]⟩),
 (99,⟨.func,1,8,[.nilFunc]⟩),
 (100,⟨.array 256 5,256,256,[.int .u8 0,.int .u8 0,.int .u8 0,.int .u8 0,.int .u8 0,.int .u8 0,.int .u8 0,.int .u8 0,.int .u8 0,.int .u8 0,.int .u8 0,.int .u8 0,.int .u8 0,.int .u8 0,.int .u8 0,.int .u8 0,.int .u8 0,.int .u8 0,.int .u8 0,.int .u8 0,.int .u8 0,.int .u8 0,.int .u8 0,.int .u8 0,.int .u8 0,.int .u8 0,.int .u8 0,.int .u8 0,.int .u8 0,.int .u8 0,.int .u8 0,.int .u8 0,.int .u8 0,.int .u8 0,.int .u8 0,.int .u8 0,.int .u8 0,.int .u8 0,.int .u8 0,.int .u8 0,.int .u8 0,.int .u8 0,.int .u8 0,.int .u8 0,.int .u8 0,.int .u8 0,.int .u8 0,.int .u8 0,.int .u8 0,.int .u8 0,.int .u8 0,.int .u8 0,.int .u8 0,.int .u8 0,.int .u8 0,.int .u8 0,.int .u8 0,.int .u8 0,.int .u8 0,.int .u8 0,.int .u8 0,.int .u8 0,.int .u8 0,.int .u8 0,.int .u8 0,.int .u8 0,.int .u8 0,.int .u8 0,.int .u8 0,.int .u8 0,.int .u8 0,.int .u8 0,.int .u8 0,.int .u8 0,.int .u8 0,.int .u8 0,.int .u8 0,.int .u8 0,.int .u8 0,.int .u8 0,.int .u8 0,.int .u8 0,.int .u8 0,.int .u8 0,.int .u8 0,.int .u8 0,.int .u8 0,.int .u8 0,.int .u8 0,.int .u8 0,.int .u8 0,.int .u8 0,.int .u8 0,.int .u8 0,.int .u8 0,.int .u8 0,.int .u8 0,.int .u8 0,.int .u8 0,.int .u8 0,.int .u8 0,.int .u8 0,.int .u8 0,.int .u8 0,.int .u8 0,.int .u8 0,.int .u8 0,.int .u8 0,.int .u8 0,.int .u8 0,.int .u8 0,.int .u8 0,.int .u8 0,.int .u8 0,.int .u8 0,.int .u8 0,.int .u8 0,.int .u8 0,.int .u8 0,.int .u8 0,.int .u8 0,.int .u8 0,.int .u8 0,.int .u8 0,.int .u8 0,.int .u8 0,.int .u8 0,.int .u8 0,.int .u8 0,.int .u8 0,.int .u8 0,.int .u8 0,.int .u8 0,.int .u8 0,.int .u8 0,.int .u8 0,.int .u8 0,.int .u8 0,.int .u8 0,.int .u8 0,.int .u8 0,.int .u8 0,.int .u8 0,.int .u8 0,.int .u8 0,.int .u8 0,.int .u8 0,.int .u8 0,.int .u8 0,.int .u8 0,.int .u8 0,.int .u8 0,.int .u8 0,.int .u8 0,.int .u8 0,.int .u8 0,.int .u8 0,.int .u8 0,.int .u8 0,.int .u8 0,.int .u8 0,.int .u8 0,.int .u8 0,.int .u8 0,.int .u8 0,.int .u8 0,.int .u8 0,.int .u8 0,.int .u8 0,.int .u8 0,.int .u8 0,.int .u8 0,.int .u8 0,.int .u8 0,.int .u8 0,.int .u8 0,.int .u8 0,.int .u8 0,.int .u8 0,.int .u8 0,.int .u8 0,.int .u8 0,.int .u8 0,.int .u8 0,.int .u8 0,.int .u8 0,.int .u8 0,.int .u8 0,.int .u8 0,.int .u8 0,.int .u8 0,.int .u8 0,.int .u8 0,.int .u8 0,.int .u8 0,.int .u8 0,.int .u8 0,.int .u8 0,.int .u8 0,.int .u8 0,.int .u8 0,.int .u8 0,.int .u8 0,.int .u8 0,.int .u8 0,.int .u8 0,.int .u8 0,.int .u8 0,.int .u8 0,.int .u8 0,.int .u8 0,.int .u8 0,.int .u8 0,.int .u8 0,.int .u8 0,.int .u8 0,.int .u8 0,.int .u8 0,.int .u8 0,.int .u8 0,.int .u8 0,.int .u8 0,.int .u8 0,.int .u8 0,.int .u8 0,.int .u8 0,.int .u8 0,.int .u8 0,.int .u8 0,.int .u8 0,.int .u8 0,.int .u8 0,.int .u8 0,.int .u8 0,.int .u8 0,.int .u8 0,.int .u8 0,.int .u8 0,.int .u8 0,.int .u8 0,.int .u8 0,.int .u8 0,.int .u8 0,.int .u8 0,.int .u8 0,.int .u8 0,.int .u8 0,.int .u8 0,.int .u8 0,.int .u8 0,.int .u8 0,.int .u8 0,.int .u8 0,.int .u8 0,.int .u8 0,.int .u8 0]⟩),
 (101,⟨.slice 126,1,24,[.slice .nil 0 []]⟩),
 (108,⟨.func,1,8,[.nilFunc]⟩),
 (113,⟨.slice 3,1,24,[.slice .nil 0 []]⟩),
 (126,⟨.struct [(62,0),(4,1)],2,32,[.slice .nil 0 [],.bool false]⟩),
 (131,⟨.ptr 78,1,8,[.nilptr]⟩),
 (134,⟨.array 32 9,32,512,[.str [],.str [],.str [],.str [],.str [],.str [],.str [],.str [],.str [],.str [],.str [],.str [],.str [],.str [],.str [],.str [],.str [],.str [],.str [],.str [],.str [],.str [],.str [],.str [],.str [],.str [],.str [],.str [],.str [],.str [],.str [],.str []]⟩),
 (136,⟨.array 27 9,27,432,[.str [],.str [],.str [],.str [],.str [],.str [],.str [],.str [],.str [],.str [],.str [],.str [],.str [],.str [],.str [],.str [],.str [],.str [],.str [],.str [],.str [],.str [],.str [],.str [],.str [],.str [],.str []]⟩),
 (177,⟨.array 24 5,24,24,[.int .u8 0,.int .u8 0,.int .u8 0,.int .u8 0,.int .u8 0,.int .u8 0,.int .u8 0,.int .u8 0,.int .u8 0,.int .u8 0,.int .u8 0,.int .u8 0,.int .u8 0,.int .u8 0,.int .u8 0,.int .u8 0,.int .u8 0,.int .u8 0,.int .u8 0,.int .u8 0,.int .u8 0,.int .u8 0,.int .u8 0,.int .u8 0]⟩),
 (178,⟨.int .u64,1,8,[.int .u64 0]⟩),
 (217,⟨.int .i64,1,8,[.i 0]⟩)]
def keep:Nat->Nat->List Nat
 | 9,7=>[2,4,6,7,8]
 | 24,3=>[2,3,9,10,11]
 | 25,13=>[0,48,49,50]
 | 25,21=>[0,69,70,71]
 | 25,37=>[0,118,119,120]
 | 30,2=>[0,8,9,10]
 | 30,9=>[0,5,8,9,10]
 | 38,2=>[0,1,2,7]
 | 49,4=>[0,3]
 | 56,3=>[1,5,11,12,13]
 | 56,6=>[1,5,7,11,12,13,17,18,19]
 | 59,5=>[0,3,23,24,25]
 | 59,15=>[0,52,53,54]
 | 68,3=>[0,2,6,7,14,15]
 | 68,6=>[0,2,6,7,9,14,15]
 | 75,1=>[0,2,8,9,10]
 | 77,0=>[0]
 | 86,3=>[0,3,4]
 | 93,8=>[0,2,3]
 | 94,4=>[0,3]
 | 99,2=>[0,1,7,8]
 | 102,3=>[0,10,11,12]
 | 112,4=>[0,2,3,4]
 | 116,40=>[0,140,141,142]
 | 122,2=>[0,1,5]
 | 126,2=>[0,1,5,6]
 | 129,5=>[0,3]
 | 131,5=>[0,1,4,5,6]
 | 131,9=>[0,1,4,7]
 | 132,2=>[0,3]
 | 139,27=>[0,2,3]
 | 174,10=>[5,6,47,48,49]
 | _,_=>[]
def cut:Nat->Nat->Bool
 | _,_=>false
def b2Q:List Nat:=[16,18,19,21,22,24,25,27,35,37,38,42,45,46,47,48,49,52,54,55,56,59,60,61,66,67,68,69,73,75,77,78,80,83,85,86,87,90,92,93,94,95,96,97,98,102,103,104,112,116,121,122,125,126,127,129,130,131,132,133,139,146,147,149,162,174]
def b1D:Nat->Nat->Bool
 | f,_=>has f b2Q
def a6p:Nat->Nat->Bool
 | f,_=>has f b2Q
def slk:Nat->Nat->List (Nat×Nat)
 | _,_=>[]
def sep:Nat->Nat->Option (List Nat×List Nat)
 | 9,3=>some ([0,1,2,3,4],[5,1000002])
 | 18,2=>some ([0,1,2,3,5,4,6,7],[5])
 | 22,12=>some ([0,1,2,3,4,5,6],[30])
 | 22,22=>some ([0,1,2,3,4,5,6],[64])
 | 22,27=>some ([0,1,2,3,4,5,6],[79])
 | 42,3=>some ([0,1,2,3,4,5,6,7,8,9,10,11,12,13],[32,28,24])
 | 45,3=>some ([0,1,2,3,4,5,6,7],[7])
 | 68,7=>some ([0,1,2,3,4,5,6,7,8,9,10,11,12,13,14,15],[77,75,72,68])
 | 68,9=>some ([0,1,3,4,5,6,2,7,8,9],[])
 | 92,5=>some ([0,1,2,3,4,5,6],[15])
 | 92,13=>some ([0,1,2,3,4,5,6],[41])
 | 96,3=>some ([0,1,2,3,4,5,6,7,8,9,10,11],[20,18,14])
 | 112,5=>some ([0,2,3,4,5,1,6,7,8],[4,17])
 | 112,8=>some ([0,1,2,3,4,5,6],[25])
 | 112,12=>some ([0,1,2,3,4,5,6,7],[38,36])
 | 112,14=>some ([0,1,2,3,4,5,6],[48])
 | 131,11=>some ([0,2,3,1,4,5],[7])
 | 139,26=>some ([0,1,2,3,4,5,6,7],[77])
 | 139,28=>some ([0,1,2,3,4,5,6,7],[86])
 | 147,18=>some ([0,1,2,3,4,5,6,7],[56])
 | 147,37=>some ([0,1,2,3,4,5,6,7],[112])
 | 147,45=>some ([0,1,2,3,4,5,6,7],[144])
 | _,_=>none
def mask:Nat->Nat->List Nat
 | 9,3=>[0,0,2,1,15]
 | 18,2=>[0,0,2,7,15,0,31,127]
 | 22,12=>[0,1,0,4,15,31,63]
 | 22,22=>[0,1,0,4,15,31,63]
 | 22,27=>[0,1,0,4,15,31,63]
 | 42,3=>[0,1,3,7,0,16,48,112,0,496,1023,2047,0,8191]
 | 45,3=>[0,1,0,4,12,31,63,127]
 | 68,7=>[0,1,3,7,0,16,48,112,255,511,1023,0,2048,8191,0,32767]
 | 68,9=>[0,0,2,0,0,16,56,127,0,511]
 | 92,5=>[0,1,0,4,15,31,63]
 | 92,13=>[0,1,0,4,15,31,63]
 | 96,3=>[0,1,3,7,0,16,48,112,255,511,0,2047]
 | 112,5=>[0,1,0,4,0,16,63,0,255]
 | 112,8=>[0,1,0,4,15,31,63]
 | 112,12=>[0,1,0,4,0,16,63,127]
 | 112,14=>[0,1,0,4,15,31,63]
 | 131,11=>[0,1,0,4,15,31]
 | 139,26=>[0,1,0,4,12,31,63,127]
 | 139,28=>[0,1,0,4,12,31,63,127]
 | 147,18=>[0,1,0,4,12,31,63,127]
 | 147,37=>[0,1,0,4,12,31,63,127]
 | 147,45=>[0,1,0,4,12,31,63,127]
 | _,_=>[]
def okL:List Nat:=[8,9,16,18,19,21,22,24,25,27,30,35,37,38,42,45,46,47,48,49,52,53,54,55,56,59,60,61,66,67,68,69,73,75,77,78,80,82,83,84,85,86,87,90,92,93,94,95,96,97,98,99,102,103,104,112,113,116,120,121,122,124,125,126,127,129,130,131,132,133,139,141,146,147,149,153,162,163,174]
def b91:List Nat:=[19]
def a9t:List Nat:=[8,9,10,30,53,82,84,99,113,120,124,141,153,163]
def b4m:List Nat:=[]
def tagL:List Nat:=[]++b2Q
def argL:List Nat:=[]++b2Q
theorem tys:tysB Tryz.prog T=true:=by kernel_rfl
theorem mixed:Tryz.prog.follows .mixedOrders=true:=by kernel_rfl
def b5l:Nat->Option Hand
 | 40=>some (.plain b33)
 | 20=>some (.via gPre b6Z)
 | _=>none
noncomputable def b0l:Env:={P:=Tryz.prog,T:=T,keep:=keep,byref:=fun _ _=>none,meth:=fun _ _=>none,tags:=fun g=>has g tagL,argTags:=fun g=>has g argL,quiet:=fun g=>has g a9t,loose:=fun _=>false,ok:=fun g=>has g okL,cut:=cut,b1D:=b1D,a6p:=a6p,sep:=sep,mask:=mask,look:=fun g=>has g b91,frz:=fun g=>has g b4m,slk:=slk,full:=true,intr:=b5l}
theorem c1u:b0i b0l okL=true:=by kernel_rfl
theorem b8p:a6X b0l:=by
 intro _ _ _ h
 cases h
theorem envOk0:a6V b0l:=⟨b8p,a7R tys,mixed,a6R (fun _ h=>h) c1u,(fun g h hg=>by simp only[b0l,b5l]at hg;first |(cases hg;done) |(split at hg<;>first |(cases hg;done) |(cases hg;exact b4E))),(fun g pre post hg=>by simp only[b0l,b5l]at hg;first |(cases hg;done) |(split at hg<;>first |(cases hg;done) |(cases hg;exact a7C)))⟩
end Go.Proofs.YtjhfloacokgdiaaGreatDoor.Aw
namespace Go.Vm
open Go
variable {env:Env}
def rho0:Rho:=⟨fun _=>none,fun _ _=>none⟩
def lab0:Lab:=fun _ _=>none
theorem rho0_le (ρ:Rho):rho0.le ρ:=⟨fun _ _ h=>(by cases h),fun _ _ _ h=>(by cases h)⟩
def b4t (B:Nat):Rho:=⟨fun k=>if k=0 then some (some (B,0),none)else none,fun k n=>if k=1/\n=0 then some (none,0)else none⟩
def a2Z (B:Nat):Lab:=fun b o=>if b=B/\o=0 then some (some 0)else none
def hp1:Hp:=[(0,.row [.slice (.tag 1) 0 []]),(1,.tip 0 0)]
theorem old_rel {w0 w:World}{B:Nat}(hB:w0.heap.size<=B)(hk:∀b,b<w0.heap.size->w.heap[b]? = w0.heap[b]?){v:V}{x:Value}(h:Rel rho0 lab0 w0 v x):Rel (b4t B) (a2Z B) w v x:=by
 have h1:Rel rho0 (a2Z B) w v x:=by
  refine h.carry fun b o x h=>?_
  have hb:=a0L h.cell
  refine⟨?_,?_⟩
  ·simp only[a2Z]
   rw[if_neg (by omega)]
  ·simp only[cellAt,World.cell?,hk b hb]
   exact h.cell
 exact h1.ext (Ext.refl _ _) (rho0_le _)
theorem sim1 {w:World}{B:Nat}(hkp:KpW w)(hkB:∀p∈kpL,p.1<B)(hc:w.cell? ⟨B,0,none⟩=some (.slice none 0 0))(hz:w.frozen? ⟨B,0,none⟩=false):Sim (b4t B) (a2Z B) hp1 w where
 kp:=⟨hkp,fun p hp o k h=>by
  simp only[a2Z]at h
  rw[if_neg (by have:=hkB p hp;omega)]at h
  cases h⟩
 row:=fun k cs h=>by
  have:k=0/\cs=[.slice (.tag 1) 0 []]:=by
   simp only[hp1,hget]at h
   split at h
   ·rename_i hb;cases h;exact⟨(Nat.eq_of_beq_eq_true hb).symm,rfl⟩
   ·split at h
    ·cases h
    ·cases h
  obtain⟨rfl,rfl⟩:=this
  refine⟨B,0,[.slice none 0 0],by simp[b4t],?_,fun i x hx=>?_⟩
  ·refine E9.2 ⟨_,_,rfl,.slice _ 0 [] [] 0 0 none 0 rfl (Nat.le_refl _) (fun h=>by omega) (fun _=>rfl) (fun i x h=>by simp at h) (fun i v x h=>by simp at h) (by simp[b4t]) (by simp) (by simp),⟨rfl,by simp⟩⟩
  ·match i,hx with
   | 0,hx =>
    cases hx
    exact⟨⟨by simp[a2Z],hz,_,hc⟩,hc⟩
   | i+1,hx=>simp at hx
 grow:=fun k e cs h=>by
  simp only[hp1,hget]at h
  split at h
  ·cases h
  ·split at h<;>cases h
 tip:=fun k e n h=>by
  have:k=1/\e=0/\n=0:=by
   simp only[hp1,hget]at h
   split at h
   ·cases h
   ·split at h
    ·rename_i hb;cases h;exact⟨(Nat.eq_of_beq_eq_true hb).symm,rfl,rfl⟩
    ·cases h
  obtain⟨rfl,rfl,rfl⟩:=this
  exact⟨none,0,by simp[b4t],Nat.le_refl _,fun _=>rfl,fun _=>rfl,fun a h=>by cases h⟩
 mp:=fun k es h=>by
  simp only[hp1,hget]at h
  split at h
  ·cases h
  ·split at h<;>cases h
 hdom:=fun k n x h=>by
  simp only[b4t]at h
  split at h
  ·rename_i hk
   obtain⟨rfl,rfl⟩:=hk
   exact⟨0,0,rfl,Nat.le_refl _⟩
  ·cases h
 adom:=fun k x h=>by
  simp only[b4t]at h
  split at h
  ·rename_i hk
   subst hk
   simp[hp1,hget]
  ·cases h
 ldom:=fun b o k h=>by
  simp only[a2Z]at h
  split at h
  ·rename_i hb
   obtain⟨rfl,rfl⟩:=hb
   exact a0L hc
  ·cases h
theorem b3k {w w':World}{B:Nat}{lab':Lab}(E:Ext (a2Z B) w lab' w'):Wrote B w w' :=
 ⟨E.size,E.os,E.tape,E.output,fun b hb hn=>E.blk b hb (fun o k h=>by
  simp only[a2Z]at h
  rw[if_neg (fun h=>hn h.1)]at h
  cases h)⟩
theorem c5G (hE:a6V env){g1 g2:Nat}{c:V}{H1 H2:Hp}{s:List UInt8}
  (h1:E env (.call g1 [.ptr 0 0,c]) hp1=some (.ret (.tuple []) H1)) (h2:E env (.call g2 [.ptr 0 0]) H1=some (.ret (.str s) H2))
  {w0 w:World} {B:Nat} (hkp:KpW w0) (hkw:w0.heap.size<=w.heap.size) (hB:w0.heap.size<=B) (hk:∀b,b<w0.heap.size->w.heap[b]? = w0.heap[b]?) (hc:w.cell? ⟨B,0,none⟩=some (.slice none 0 0)) (hz:w.frozen? ⟨B,0,none⟩=false) {x:Value} (hx:Rel rho0 lab0 w0 c x) :
  Calls env.P g1 #[.pointer (some ⟨B,0,none⟩),x] w fun e w1=>e=.returned (.tuple #[])/\Wrote B w w1 /\
   Calls env.P g2 #[.pointer (some ⟨B,0,none⟩)] w1 fun e w2=>e=.returned (.string ⟨⟨s⟩⟩)/\Wrote B w w2:=by
 obtain⟨k1,hk1⟩:=(a1L env).at_ _ _ _ h1
 obtain⟨k2,hk2⟩:=(a1L env).at_ _ _ _ h2
 have hS:=sim1 (fun p hp=>⟨Nat.lt_of_lt_of_le (hkp p hp).1 hkw,by rw[hk p.1 (hkp p hp).1];exact(hkp p hp).2⟩) (fun p hp=>Nat.lt_of_lt_of_le (hkp p hp).1 hB) hc hz
 have hp:Rel (b4t B) (a2Z B) w (.ptr 0 0) (.pointer (some ⟨B,0+0,none⟩)):=.ptr 0 0 B 0 none (by simp[b4t])
 have hL:K8 (b4t B) (a2Z B) w [.ptr 0 0,c] [.pointer (some ⟨B,0,none⟩),x]:=E9.2 ⟨_,_,rfl,hp,E9.2 ⟨_,_,rfl,old_rel hB hk hx,⟨rfl,by simp⟩⟩⟩
 have C1:=(b55 hE k1).1.call g1 _ _ _ hk1 (b4t B) (a2Z B) w _ ⟨rfl,rfl,trivial⟩ hS hL
 refine C1.mono fun e w1 hP=>?_
 cases e with
 | returned v =>
  obtain⟨ρ',lab',s1,s2,s3,s4,s5,s6⟩:=hP
  have hv:v=.tuple #[]:=by
   cases s4 with
   | tuple _ zs h1 h2 =>
    have:zs=[]:=by simpa using h1
    subst this;rfl
  refine⟨by rw[hv],b3k s2,?_⟩
  have ha:ρ'.at_ 0=some (some (B,0),none):=s3.at_ 0 _ (by decide) (by simp[b4t])
  have hp2:Rel ρ' lab' w1 (.ptr 0 0) (.pointer (some ⟨B,0+0,none⟩)):=.ptr 0 0 B 0 none ha
  have hL2:K8 ρ' lab' w1 [.ptr 0 0] [.pointer (some ⟨B,0,none⟩)]:=E9.2 ⟨_,_,rfl,hp2,⟨rfl,by simp⟩⟩
  have C2:=(b55 hE k2).1.call g2 _ _ _ hk2 ρ' lab' w1 _ s5 s1 hL2
  refine C2.mono fun e w2 hP=>?_
  cases e with
  | returned v2 =>
   obtain⟨ρ2,lab2,t1,t2,t3,t4,t5,t6⟩:=hP
   have hv2:v2=.string ⟨⟨s⟩⟩:=by cases t4;rfl
   exact⟨by rw[hv2],b3k (s2.trans t2)⟩
  | panicked ch=>exact hP.elim
  | outgrown=>exact hP.elim
 | panicked ch=>exact hP.elim
 | outgrown=>exact hP.elim
end Go.Vm
namespace Go.Proofs.YtjhfloacokgdiaaGreatDoor.Aw
open Go Go.Vm Go.RowKit Go.Lib
theorem nf_rel0 {ρ:Rho}{lab:Lab}{w:World}{v:V}{x:Value}(h:Rel ρ lab w v x)(hn:NF v):Rel rho0 lab0 w v x:=NF.rel (fun _ _ _=>rfl) h hn
theorem a8u {p:Prop}(h:p):Hid p:=h
def b3y (c:List V)(s:List UInt8):Prop:=∃H1 H2,E b0l (.call 25 [.ptr 0 0,.agg c]) hp1=some (.ret (.tuple []) H1)/\E b0l (.call 27 [.ptr 0 0]) H1=some (.ret (.str s) H2)
def printed (l:List (List UInt8)):List UInt8:=(l.map (· ++ [10])).flatten
theorem b8G {l:List (List UInt8)}{k:Nat}{s:List UInt8}(h:l[k]? = some s):printed (l.take (k+1))=printed (l.take k)++s++[10]:=by
 unfold printed
 rw[List.take_add_one,h]
 simp
theorem c2s (l:List (List UInt8))(k:Nat):(printed (l.take k)).length <=(printed l).length:=by
 have h:printed l=printed (l.take k)++printed (l.drop k):=by
  unfold printed
  rw[<-List.flatten_append,<-List.map_append,List.take_append_drop]
 rw[h,List.length_append];omega
theorem bld_kept {T e:TypeId}{B0 b:Nat}{bs:List Value}{w w':World}(h:IsBuilder T e B0 b bs w)(hk:∀k,k<w.heap.size->w'.heap[k]? = w.heap[k]?):IsBuilder T e B0 b bs w':=by
 have key:∀{p:Value},BuilderAt T e B0 b p bs w->BuilderAt T e B0 b p bs w':=by
  rintro p ⟨h1,v,h2,h3,h4⟩
  have hb:b<w.heap.size:=by
   rcases Nat.lt_or_ge b w.heap.size with h|h
   ·exact h
   ·rw[Array.getElem?_eq_none h]at h2;cases h2
  refine⟨h1,v,(hk b hb).trans h2,?_,h4⟩
  refine⟨h3.1,?_⟩
  rcases h3.2 with h5 |⟨g,cap,cur,h5,h6,h7,h8⟩
  ·exact .inl h5
  ·have hg:g<w.heap.size:=by
    rcases Nat.lt_or_ge g w.heap.size with h|h
    ·exact h
    ·rw[Array.getElem?_eq_none h]at h7;cases h7
   exact .inr ⟨g,cap,cur,h5,h6,(hk g hg).trans h7,h8⟩
 rcases h with h|h
 ·exact .inl (key h)
 ·exact .inr (key h)
theorem b9I (T e:TypeId)(B0:Nat)(w:World)(hB:B0<=w.heap.size):IsBuilder T e B0 w.heap.size [] (w.alloc (.cells #[.pointer none,.slice none 0 0] T)):=by
 have key:∀{p:Value},BuilderAt T e w.heap.size w.heap.size p [] (w.alloc (.cells #[.pointer none,.slice none 0 0] T))->BuilderAt T e B0 w.heap.size p [] (w.alloc (.cells #[.pointer none,.slice none 0 0] T)):=by
  rintro p ⟨h1,v,h2,h3,h4⟩
  refine⟨hB,v,h2,⟨h3.1,?_⟩,h4⟩
  rcases h3.2 with h5 |⟨g,cp,cur,h5,h6,r⟩
  ·exact .inl h5
  ·exact .inr ⟨g,cp,cur,h5,by omega,r⟩
 rcases fresh_isBuilder T e w with h|h
 ·exact .inl (key h)
 ·exact .inr (key h)
structure Kid (w:World)(b o:Nat)(s:List UInt8)(k:Nat):Prop where
 ex:∃c y0 y1 y2 y3 y4 y5 y6 y7 y8 y9,w.cell? ⟨b,o+k*10,none⟩=some y0/\w.cell? ⟨b,o+k*10+1,none⟩=some y1/\w.cell? ⟨b,o+k*10+2,none⟩=some y2/\w.cell? ⟨b,o+k*10+3,none⟩=some y3 /\
  w.cell? ⟨b,o+k*10+4,none⟩=some y4/\w.cell? ⟨b,o+k*10+5,none⟩=some y5/\w.cell? ⟨b,o+k*10+6,none⟩=some y6/\w.cell? ⟨b,o+k*10+7,none⟩=some y7/\w.cell? ⟨b,o+k*10+8,none⟩=some y8/\w.cell? ⟨b,o+k*10+9,none⟩=some y9 /\
  Rel rho0 lab0 w (.agg c) (.agg #[y0,y1,y2,y3,y4,y5,y6,y7,y8,y9])/\b3y c s /\ ∀y ∈ [y0,y1,y2,y3,y4,y5,y6,y7,y8,y9],y.oneCell'=true
theorem c1i {a b:Nat}{w w':World}(h:a<=b)(hB:Below b w w'):Below a w w':=⟨hB.os,hB.tape,hB.output,hB.size,fun k hk=>hB.block k (by omega)⟩
theorem b7y (w:World)(cs:Array Value)(t:TypeId)(i:Nat)(v:Value)(hi:i<cs.size)(hv:v.oneCell'=true):(store ⟨w.heap.size,i,none⟩ v).run Tryz.prog (w.alloc (.cells cs t))=.ok () (w.alloc (.cells (cs.setIfInBounds i v) t)):=by
 have h1:(w.alloc (.cells cs t)).cell? ⟨w.heap.size,i,none⟩=some cs[i]:=by simp[hi]
 have h2:(w.alloc (.cells cs t)).frozen? ⟨w.heap.size,i,none⟩=false:=by simp
 rw[run_store _ _ _ _ _ hv]
 simp[stored,go_sem,h1,h2,World.setCell_alloc_new]
theorem c2r (v0 v1 v2 v3 v4 v5 v6 v7 v9:Value)(ao:Option Addr)(b o cap:Nat)(l:List (List UInt8))(w:World)(hkp:KpW w)(hn:l.length<=cap)(hao:0<l.length->ao=some ⟨b,o,none⟩)
  (hb:0<l.length->b<w.heap.size) (hN:l.length<=140737488355328) (hK:∀(k:Nat) s,l[k]? = some s->Kid w b o s k) (hlen:(printed l).length<=140737488355328) :
  Calls Tryz.prog 10 #[.agg #[v0,v1,v2,v3,v4,v5,v6,v7,.slice ao l.length cap,v9]] w fun e w'=>e=.returned (.string ⟨(printed l).toArray⟩)/\Below w.heap.size w w':=by
 have HK:=a8u hK
 have Hlen:=a8u hlen
 have Hao:=a8u hao
 have Hb:=a8u hb
 clear hK hlen hao hb
 go_enter Tryz.func10,Tryz.ntmps10
 go_wp2_with fail
 go_loopw [10] (fun i wr=>∃k:Nat,k<=l.length/\i=.int .i64 k/\Hid (IsBuilder 60 5 w.heap.size (w.heap.size+1) (byteCells (printed (l.take k))) wr)/\Hid (Below w.heap.size w wr)) (fun i _=>l.length-(RowKit.intOf i).toNat)
 case atStart =>
  refine⟨0,Nat.zero_le _,rfl,a8u ?_,a8u ?_⟩
  ·have:=b9I 60 5 w.heap.size (w.alloc (.cells #[v0,v1,v2,v3,v4,v5,v6,v7,.slice ao l.length cap,v9] 29)) (by rw[World.size_alloc];omega)
   rw[World.size_alloc]at this
   exact this
  ·exact((Below.refl w.heap.size w).alloc (Nat.le_refl _) _).alloc (by rw[World.size_alloc];omega) _
 case round =>
  obtain⟨k,hk,rfl,HB,HW⟩:=hrel
  by_cases hkn:k<l.length
  ·obtain⟨s,hs⟩:∃s,l[k]? = some s:=⟨l[k],List.getElem?_eq_getElem hkn⟩
   have hao:=Hao.out (by omega)
   subst hao
   have hbw:=Hb.out (by omega)
   obtain⟨c,y0,y1,y2,y3,y4,y5,y6,y7,y8,y9,c0,c1,c2,c3,c4,c5,c6,c7,c8,c9,hr,hline,hone⟩:=(HK.out k s hs).ex
   have cc:∀j,wr.cell? ⟨b,j,none⟩=w.cell? ⟨b,j,none⟩:=fun j=>HW.out.cell (p:=⟨b,j,none⟩) hbw
   rw[<-cc]at c0 c1 c2 c3 c4 c5 c6 c7 c8 c9
   obtain⟨H1,H2,q1,q2⟩:=hline
   have Q1:=a8u q1
   have Q2:=a8u q2
   have HR:=a8u hr
   have Hs:=a8u hs
   have hBw:=HW.out.size
   clear q1 q2 hr hs cc
   go_wp2_with fail
   rw[b7y _ _ _ _ _ (by simp) (hone _ (by simp))]
   simp only[Result.andThen]
   repeat(rw[b7y _ _ _ _ _ (by simp) (hone _ (by simp))];simp only[Result.andThen])
   have hset:((((((((((#[Value.int .i64 0,.string {data:=#[]},.int .i64 0,.int .i64 0,.string {data:=#[]},.int .i64 0,.slice none 0 0,.slice none 0 0,.slice none 0 0,.int .i64 0].setIfInBounds 0 y0).setIfInBounds 1 y1).setIfInBounds 2 y2).setIfInBounds 3 y3).setIfInBounds 4 y4).setIfInBounds 5 y5).setIfInBounds 6 y6).setIfInBounds 7 y7).setIfInBounds 8 y8).setIfInBounds 9 y9) = #[y0,y1,y2,y3,y4,y5,y6,y7,y8,y9]:=by simp
   rw[hset]
   clear hset
   go_wp2_with fail
   have hsz:((wr.alloc (.cells #[y0,y1,y2,y3,y4,y5,y6,y7,y8,y9] 29)).alloc (.cells #[.slice none 0 0] 64)).heap.size=wr.heap.size+2:=by rw[World.size_alloc,World.size_alloc]
   have hold:∀j,j<wr.heap.size ->((wr.alloc (.cells #[y0,y1,y2,y3,y4,y5,y6,y7,y8,y9] 29)).alloc (.cells #[.slice none 0 0] 64)).heap[j]? = wr.heap[j]?:=fun j hj =>
    (alloc_old _ _ j (by rw[World.size_alloc];omega)).trans (alloc_old _ _ j hj)
   have hcW:((wr.alloc (.cells #[y0,y1,y2,y3,y4,y5,y6,y7,y8,y9] 29)).alloc (.cells #[.slice none 0 0] 64)).cell? ⟨wr.heap.size+1,0,none⟩=some (.slice none 0 0):=by
    have:=World.cell?_alloc_new (wr.alloc (.cells #[y0,y1,y2,y3,y4,y5,y6,y7,y8,y9] 29)) #[.slice none 0 0] 64 0
    rw[World.size_alloc]at this
    exact this
   have hzW:((wr.alloc (.cells #[y0,y1,y2,y3,y4,y5,y6,y7,y8,y9] 29)).alloc (.cells #[.slice none 0 0] 64)).frozen? ⟨wr.heap.size+1,0,none⟩=false:=by
    have:=World.frozen?_alloc_new (wr.alloc (.cells #[y0,y1,y2,y3,y4,y5,y6,y7,y8,y9] 29)) #[.slice none 0 0] 64 0
    rw[World.size_alloc]at this
    exact this
   refine(c5G envOk0 Q1.out Q2.out (w0:=w) (w:=((wr.alloc (.cells #[y0,y1,y2,y3,y4,y5,y6,y7,y8,y9] 29)).alloc (.cells #[.slice none 0 0] 64))) (B:=wr.heap.size+1) hkp (by rw[hsz];omega) (by omega) (fun j hj=>(hold j (by omega)).trans (HW.out.block j hj)) hcW hzW HR.out).mono ?_
   rintro e w1 ⟨rfl,hw1,C2⟩
   have CC:=a8u C2
   clear C2 hcW hzW
   go_wp2_with fail
   refine CC.out.mono ?_
   rintro e w2 ⟨rfl,hw2⟩
   have hk2:∀j,j<wr.heap.size->w2.heap[j]? = wr.heap[j]?:=fun j hj=>(hw2.blk j (by omega) (by omega)).trans (hold j hj)
   have hs2:wr.heap.size<=w2.heap.size:=by have:=hw2.size;omega
   have hlen:=Hlen.out
   have hlk:=c2s l (k+1)
   have hpt:=b8G Hs.out
   rw[hpt,List.length_append,List.length_append,List.length_singleton]at hlk
   have HB2:=a8u (bld_kept HB.out hk2)
   have HW2:=a8u (⟨hw2.os,hw2.tape,hw2.output,hs2,fun j hj=>hk2 j (by omega)⟩:Below wr.heap.size wr w2)
   have Hpt:=a8u hpt
   clear hw1 hw2 hk2 CC hold hsz hpt
   go_wp2_with fail
   refine(Tryz.Builder_WriteString w.heap.size (w.heap.size+1) _ ⟨⟨s⟩⟩ w2 HB2.out (by rw[byteCells_length];simp only[ByteArray.size];simp;omega) (by omega)).mono ?_
   rintro e w3 ⟨rfl,h3,hb3⟩
   have H3:=a8u h3
   have Hb3:=a8u hb3
   clear h3 hb3
   go_wp2_with fail
   refine(Tryz.Builder_WriteByte w.heap.size (w.heap.size+1) _ 10 w3 (.inr H3.out) (by rw[List.length_append,byteCells_length,strCells_length];simp only[ByteArray.size];simp;omega) (by have:=Hb3.out.size;omega)).mono ?_
   rintro e w4 ⟨rfl,h4,hb4⟩
   have hnext:byteCells (printed (l.take k))++strCells ⟨⟨s⟩⟩++[.int .u8 10]=byteCells (printed (l.take (k+1))):=by
    rw[Hpt.out,strCells_eq,byteCells_append,byteCells_append]
    rfl
   rw[hnext]at h4
   have H4:=a8u (Or.inr h4:IsBuilder 60 5 w.heap.size (w.heap.size+1) _ w4)
   have Hb4:=a8u ((HW.out.trans (c1i hBw HW2.out)).trans (Hb3.out.trans hb4))
   clear h4 hb4 hnext
   go_wp2
   exact⟨⟨k+1,by omega,by go_num,H4,Hb4⟩,by simp[RowKit.intOf];omega⟩
  ·have hke:k=l.length:=by omega
   subst hke
   have hB':=HB.out
   rw[List.take_length]at hB'
   have hBw:=HW.out.size
   have HB2:=a8u hB'
   clear hB'
   go_wp2_with fail
   refine(Tryz.Builder_String_any w.heap.size (w.heap.size+1) _ wr HB2.out hBw).mono ?_
   rintro e w5 ⟨rfl,hb5⟩
   have Hb5:=a8u (HW.out.trans hb5)
   clear hb5
   go_wp2
   go_ret
   exact⟨rfl,Hb5.out⟩
theorem c1S {c:List V}{s s':List UInt8}(h:b3y c s)(g:b3y c s'):s=s':=by
 obtain⟨H1,H2,a1,a2⟩:=h
 obtain⟨K1,K2,b1,b2⟩:=g
 rw[a1]at b1
 cases b1
 rw[a2]at b2
 cases b2
 rfl
inductive Lines:List V->List (List UInt8)->Prop
 | nil:Lines [] []
 | cons (c r:List V) (s:List UInt8) (l:List (List UInt8)):c.length=10->b3y c s->Lines r l->Lines (c++r) (s::l)
theorem Lines.det {cs:List V}{l:List (List UInt8)}(h:Lines cs l):∀{l'},Lines cs l'->l=l':=by
 induction h with
 | nil =>
  intro l' g
  generalize hq:([]:List V)=q at g
  cases g with
  | nil=>rfl
  | cons c r s l h1 h2 h3 =>
   have:=congrArg List.length hq
   rw[List.length_append]at this
   simp at this
   omega
 | cons c r s l h1 h2 h3 ih =>
  intro l' g
  generalize hq:c++r=q at g
  cases g with
  | nil =>
   have:=congrArg List.length hq
   rw[List.length_append,h1]at this
   simp only[List.length_nil]at this
   omega
  | cons c' r' s' l'' g1 g2 g3 =>
   obtain⟨rfl,rfl⟩:=List.append_inj hq (by rw[h1,g1])
   rw[c1S h2 g2,ih g3]
theorem Lines.get {cs:List V}{l:List (List UInt8)}(h:Lines cs l):∀{k:Nat} {s:List UInt8},l[k]? = some s->b3y ((cs.drop (k*10)).take 10) s/\k*10+10<=cs.length:=by
 induction h with
 | nil=>intro k s h;simp at h
 | cons c r s0 l h1 h2 h3 ih =>
  intro k s hk
  cases k with
  | zero =>
   simp only[List.getElem?_cons_zero,Option.some.injEq]at hk
   subst hk
   refine⟨?_,by rw[List.length_append];omega⟩
   rw[Nat.zero_mul,List.drop_zero,List.take_append_of_le_length (by omega),List.take_of_length_le (by omega)]
   exact h2
  | succ k =>
   simp only[List.getElem?_cons_succ]at hk
   obtain⟨g1,g2⟩:=ih hk
   refine⟨?_,by rw[List.length_append];omega⟩
   rw[show(k+1)*10=c.length+k*10 from by omega,<-List.drop_drop,List.drop_left]
   exact g1
noncomputable def b2n:List V->Hp->Option Out:=fun args H=>match args with
 | [.agg [_,_,_,_,_,_,_,_,.slice _ n cs,_]]=>@dite _ (∃l,Lines cs l/\l.length=n/\l.length<=140737488355328/\(printed l).length<=140737488355328) (Classical.propDecidable _) (fun h=>some (.ret (.str (printed h.choose)) H)) (fun _=>none)
 | _=>none
theorem c48 {c0 c1 c2 c3 c4 c5 c6 c7 c9:V}{ow:Own}{n:Nat}{cs:List V}{l:List (List UInt8)}{H:Hp}(h:Lines cs l)(hn:l.length=n)(hN:l.length<=140737488355328)(hl:(printed l).length<=140737488355328) :
  b2n [.agg [c0,c1,c2,c3,c4,c5,c6,c7,.slice ow n cs,c9]] H=some (.ret (.str (printed l)) H):=by
 have hex:∃l,Lines cs l/\l.length=n/\l.length<=140737488355328/\(printed l).length<=140737488355328:=⟨l,h,hn,hN,hl⟩
 have he:hex.choose=l:=(h.det hex.choose_spec.1).symm
 simp only[b2n]
 rw[dif_pos hex,he]
theorem ten {α:Type}(l:List α)(h:l.length=10):∃y0 y1 y2 y3 y4 y5 y6 y7 y8 y9,l=[y0,y1,y2,y3,y4,y5,y6,y7,y8,y9]:=by
 match l,h with
 | [y0,y1,y2,y3,y4,y5,y6,y7,y8,y9],_=>exact⟨_,_,_,_,_,_,_,_,_,_,rfl⟩
theorem print_ok:a6W Tryz.prog 10 b2n:=by
 refine⟨fun args H out h ρ lab w xs hc hS hx=>?_,⟨_,_,Tryz.func10,rfl,rfl⟩⟩
 unfold b2n at h
 split at h
 ·rename_i c0 c1 c2 c3 c4 c5 c6 c7 ow n cs c9
  split at h
  ·rename_i hex
   cases h
   obtain⟨hL,hn,hN,hlen⟩:=hex.choose_spec
   generalize hex.choose=l at hL hn hN hlen
   obtain⟨x1,r1,rfl,a1,a2⟩:=E9.1 hx
   have:r1=[]:=by have:=a2.1;simpa using this
   subst this
   cases a1 with
   | agg _ vs e1 e2 =>
   obtain⟨v0,v1,v2,v3,v4,v5,v6,v7,v8,v9,rfl⟩:=ten vs (by rw[e1];rfl)
   have q8:=e2 8 _ _ rfl rfl
   cases q8 with
   | slice _ _ _ ys b o ao cap g1 g2 g3 g4 g5 g6 g7 g8 g9 =>
   subst hn
   have K:=c2r v0 v1 v2 v3 v4 v5 v6 v7 v9 ao b o cap l w hS.kp.1 g2 g3 (fun h0=>?_) hN (fun k s hk=>⟨?_⟩) hlen
   ·refine K.mono fun e w' ⟨he,hw⟩=>?_
    subst he
    have G:a0A w w':=⟨hw.size,hw.os,hw.tape,hw.output,fun b hb=>hw.block b hb⟩
    exact⟨ρ,lab,hS.grew G,G.ext lab,⟨fun _ _ _ h=>h,fun _ _ _ _ h=>h⟩,.str _,hc,Nat.le_refl _⟩
   ·obtain⟨_,h2⟩:=hL.get (List.getElem?_eq_getElem h0)
    have hy:0<ys.length:=by rw[g1];omega
    have:=g5 0 ys[0] (by simp[hy])
    exact a0L this.cell
   ·obtain⟨h1,h2⟩:=hL.get hk
    have hlen2:((ys.drop (k*10)).take 10).length=10:=by
     rw[List.length_take,List.length_drop,g1];omega
    obtain⟨y0,y1,y2,y3,y4,y5,y6,y7,y8,y9,hy⟩:=ten _ hlen2
    have get:∀j,j<10 -> ∀y,[y0,y1,y2,y3,y4,y5,y6,y7,y8,y9][j]? = some y->ys[k*10+j]? = some y:=by
     intro j hj y hyj
     rw[<-hy,List.getElem?_take,if_pos hj,List.getElem?_drop]at hyj
     exact hyj
    have cell:∀j,j<10 -> ∀y,[y0,y1,y2,y3,y4,y5,y6,y7,y8,y9][j]? = some y->w.cell? ⟨b,o+k*10+j,none⟩=some y:=by
     intro j hj y hyj
     have:=(g5 _ _ (get j hj y hyj)).cell
     rw[<-Nat.add_assoc]at this
     exact this
    refine⟨(cs.drop (k*10)).take 10,y0,y1,y2,y3,y4,y5,y6,y7,y8,y9,cell 0 (by omega) _ rfl,cell 1 (by omega) _ rfl,cell 2 (by omega) _ rfl,cell 3 (by omega) _ rfl,cell 4 (by omega) _ rfl,cell 5 (by omega) _ rfl,cell 6 (by omega) _ rfl,cell 7 (by omega) _ rfl,cell 8 (by omega) _ rfl,cell 9 (by omega) _ rfl,?_,h1,?_⟩
    ·refine .agg _ [y0,y1,y2,y3,y4,y5,y6,y7,y8,y9] ?_ (fun i v x hv hx=>?_)
     ·rw[List.length_take,List.length_drop]
      show 10=_
      omega
     ·have hi:i<10:=by
       rcases Nat.lt_or_ge i 10 with h|h
       ·exact h
       ·rw[List.getElem?_eq_none (by simpa using h)]at hx;cases hx
      rw[List.getElem?_take,if_pos hi,List.getElem?_drop]at hv
      exact nf_rel0 (g6 _ _ _ hv (get i hi x hx)) (g9 v (List.mem_of_getElem? hv))
    ·intro y hyy
     obtain⟨j,hj,rfl⟩:=List.mem_iff_getElem.1 hyy
     exact g8 _ (List.mem_of_getElem? (get j (by simpa using hj) _ (by simp[hj])))
  ·cases h
 ·cases h
end Go.Proofs.YtjhfloacokgdiaaGreatDoor.Aw
namespace Go.Proofs.YtjhfloacokgdiaaGreatDoor.Aw
open Go Go.Vm
noncomputable def b0s:Nat->Option Hand
 | 40=>some (.plain b33)
 | 10=>some (.plain b2n)
 | 20=>some (.via gPre b6Z)
 | _=>none
noncomputable def env:Env:={P:=Tryz.prog,T:=T,keep:=keep,byref:=fun _ _=>none,meth:=fun _ _=>none,tags:=fun g=>has g tagL,argTags:=fun g=>has g argL,quiet:=fun g=>has g a9t,loose:=fun _=>false,ok:=fun g=>has g okL,cut:=cut,b1D:=b1D,a6p:=a6p,sep:=sep,mask:=mask,look:=fun g=>has g b91,frz:=fun g=>has g b4m,slk:=slk,full:=true,intr:=b0s}
theorem codes:b0i env okL=true:=by kernel_rfl
theorem b5B:a6X env:=by
 intro _ _ _ h
 cases h
theorem b47:a6V env:=⟨b5B,a7R tys,mixed,a6R (fun _ h=>h) codes,(fun g h hg=>by simp only[env,b0s]at hg;first |(cases hg;done) |(split at hg<;>first |(cases hg;done) |(cases hg;exact b4E) |(cases hg;exact print_ok))),(fun g pre post hg=>by simp only[env,b0s]at hg;first |(cases hg;done) |(split at hg<;>first |(cases hg;done) |(cases hg;exact a7C)))⟩
end Go.Proofs.YtjhfloacokgdiaaGreatDoor.Aw
