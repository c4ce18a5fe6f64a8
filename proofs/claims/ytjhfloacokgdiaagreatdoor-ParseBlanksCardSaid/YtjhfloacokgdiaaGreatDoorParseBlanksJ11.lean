/- Texts of ParseBlanks, joined. -/
import Derived.Test.YtjhfloacokgdiaaGreatDoorParseBlanksJ10
import Derived.KernelRfl
import Derived.Test.YtjhfloacokgdiaaGreatDoorProg
import Derived.Tactics
import Derived.Tactics2
import Derived.Defers
import Derived.Recover
import Derived.Laws.Pointers
import Derived.BigCall
import Derived.BigGuard
set_option maxRecDepth 100000
set_option maxHeartbeats 20000000
set_option linter.unusedSimpArgs false
set_option linter.unusedVariables false
set_option linter.unusedSectionVars false
namespace Go.Proofs.YtjhfloacokgdiaaGreatDoor
open Go Go.Vm
theorem cell_lt {w:World}{b o:Nat}{x:Value}(h:w.cell? ⟨b,o,none⟩=some x):b<w.heap.size:=X3 h
theorem b8L (b o:Nat)(x y fa fb:Int)(u:Value)(older:List PanicEntry)(w:World)(h0:w.cell? ⟨b,o,none⟩=some (.int .i64 x))(h1:w.cell? ⟨b,o+1,none⟩=some (.int .i64 y))(z0:w.frozen? ⟨b,o,none⟩=false)(z1:w.frozen? ⟨b,o+1,none⟩=false) :
  CallsD Tryz.prog 41 #[.pointer (some ⟨b,o,none⟩)] (.panicking ({v:=.iface 87 (.agg #[.int .i64 fa,.int .i64 fb]),recovered:=false}::older)) w fun e u' w' =>
   e=.returned (.tuple #[])/\u'=.panicking ({v:=.iface 87 (.agg #[.int .i64 fa,.int .i64 fb]),recovered:=true}::older) /\
   w' =((w.setCell ⟨b,o,none⟩ (.int .i64 fa)).setCell ⟨b,o+1,none⟩ (.int .i64 fb)).alloc (.cells #[.int .i64 fa,.int .i64 fb] 87):=by
 refine callsD_of_wpS Tryz.func41 rfl fun c₀ cs hu=>?_
 apply wpS_seq
 apply wpS_region
 simp[wpOpsS,go_sem,recoverD,hu,Tryz.ntmps41,Exit.thenS]
 refine wpS_of_wp ?_
 go_wp2
 have hta:(Instr.typeAssert (.iface 87 (.agg #[.int .i64 fa,.int .i64 fb])) 20 87 true).run Tryz.prog w=.ok (.tuple #[.agg #[.int .i64 fa,.int .i64 fb],.bool true]) w:=by
  simp only[Instr.typeAssert,Sem.run_bind,run_underlying Tryz.underlying87,Result.andThen_ok]
  simp
 rw[hta]
 simp only[Result.andThen]
 rw[Oper.upon_value]
 have hb:=cell_lt h0
 have G:V5 w (w.alloc (.cells #[.int .i64 fa,.int .i64 fb] 87)):=V5.push w _
 have a0:=(G.cell hb o).trans h0
 have a1:=(G.cell hb (o+1)).trans h1
 have y0:=(G.frozen hb o).trans z0
 have y1:=(G.frozen hb (o+1)).trans z1
 unfold cellAt at a0 a1
 have a2:((w.alloc (.cells #[.int .i64 fa,.int .i64 fb] 87)).setCell ⟨b,o,none⟩ (.int .i64 fa)).cell? ⟨b,o+1,none⟩=some (.int .i64 y):=(World.cell?_setCell_other _ _ _ _ (by simp)).trans a1
 have y2:((w.alloc (.cells #[.int .i64 fa,.int .i64 fb] 87)).setCell ⟨b,o,none⟩ (.int .i64 fa)).frozen? ⟨b,o+1,none⟩=false:=by simp[y1]
 go_wp2
 obtain⟨a₀,b₀,e₀,d₀,f₀,g₀,h₀⟩:=c₀
 subst hu
 simp[bodyPostS,results,Tryz.results41]
theorem b8K (p:Addr)(w:World) :
  CallsD Tryz.prog 41 #[.pointer (some p)] .returning w fun e u' w'=>e=.returned (.tuple #[])/\u'=.returning/\w'=w:=by
 refine callsD_of_wpS Tryz.func41 rfl fun c₀ cs hu=>?_
 apply wpS_seq
 apply wpS_region
 simp[wpOpsS,go_sem,recoverD,hu,Tryz.ntmps41,Exit.thenS]
 refine wpS_of_wp ?_
 go_wp2
 cases c₀
 simp_all [bodyPostS,results,Tryz.results41]
def gClo:List Nat:=[21,34,2]
def gPre:List V->Hp->Option (Nat×List V×Hp):=fun args H=>match args with
 | [.ptr _ _,.func (.func g) a c]=>gd (has g gClo) (some (g,a++c,a7S H))
 | _=>none
def b4H:List V->Hp->Out->Option Out:=fun _ _ o=>match o with
 | .ret (.tuple []) H1=>some (.ret (.agg [.int .i64 0,.int .i64 0]) H1)
 | .pan (.iface t (.agg [.int .i64 a,.int .i64 b])) H1=>gd (Nat.beq t 87) (some (.ret (.agg [.int .i64 a,.int .i64 b]) H1))
 | _=>none
theorem c1g {g:Nat} (h:has g gClo=true):∃fn c,Tryz.prog.funcs[g]? = some fn/\(fn.name == "runtime.NumGoroutine")=false/\fn.body=some c:=by
 have:g=21∨g=34∨g=2:=by
  simp only[has,gClo]at h
  split at h
  ·exact .inl (Nat.eq_of_beq_eq_true (by assumption)).symm
  ·split at h
   ·exact .inr (.inl (Nat.eq_of_beq_eq_true (by assumption)).symm)
   ·split at h
    ·exact .inr (.inr (Nat.eq_of_beq_eq_true (by assumption)).symm)
    ·cases h
 rcases this with rfl|rfl|rfl
 ·exact⟨_,_,Tryz.func21,rfl,rfl⟩
 ·exact⟨_,_,Tryz.func34,rfl,rfl⟩
 ·exact⟨_,_,Tryz.func2,rfl,rfl⟩
theorem agg2 {ρ:Rho}{lab:Lab}{w:World}(a b:Int):∀(i:Nat) (v:V) (x:Value),[V.int .i64 a,.int .i64 b][i]? = some v->[Value.int .i64 a,.int .i64 b][i]? = some x->Rel ρ lab w v x
 | 0,_,_,h,g=>by cases h;cases g;exact .int _ _
 | 1,_,_,h,g=>by cases h;cases g;exact .int _ _
 | i+2,_,_,h,g=>by simp at h
theorem a5Q:ViaOk Tryz.prog 20 gPre b4H:=by
 refine⟨fun args H g' l H' o out hp ho ρ lab w xs hc hS hx hcall=>?_,⟨_,_,Tryz.func20,rfl,rfl⟩⟩
 unfold gPre at hp
 split at hp
 ·rename_i args0 r off g0 a c
  obtain⟨hg,hp⟩:=I6 hp
  cases hp
  obtain⟨x1,xr0,rfl,r1,r2⟩:=A9.1 hx
  obtain⟨x2,xr,rfl,r3,r4⟩:=A9.1 r2
  have:xr=[]:=by have:=r4.1;simpa using this
  subst this
  cases r3 with
  | func _ _ _ us ys u1 u2 u3 u4 =>
  obtain⟨fn,cd,k1,k2,k3⟩:=c1g hg
  have hrun:∀args w,(callFunc g' args).run Tryz.prog w=.ok (.enter g' args) w:=fun args w=>by
   have h1:fn.name ≠ "runtime.NumGoroutine":=by simpa using k2
   simp[callFunc,k1,h1,k3]
  have G:V5 w (w.alloc (.cells #[.int .i64 0,.int .i64 0] 38)):=V5.push w _
  have hB:w.heap.size<(w.alloc (.cells #[.int .i64 0,.int .i64 0] 38)).heap.size:=by
   show w.heap.size<(w.heap.push _).size
   rw[Array.size_push];omega
  have hS1:=(hS.mine G hB).a7S
  have hl:G9 ρ lab w (a++c) (us++ys):=G9.append ⟨u1,u3⟩ ⟨u2,u4⟩
  have hl1:=hl.carry (mineF G)
  have hK:=hcall ρ _ _ (us++ys) (b1y _ _ hc) hS1 hl1
  have C0:(w.alloc (.cells #[.int .i64 0,.int .i64 0] 38)).cell? ⟨w.heap.size,0,none⟩=some (.int .i64 0):=by simp
  have C1:(w.alloc (.cells #[.int .i64 0,.int .i64 0] 38)).cell? ⟨w.heap.size,1,none⟩=some (.int .i64 0):=by simp
  have Z0:(w.alloc (.cells #[.int .i64 0,.int .i64 0] 38)).frozen? ⟨w.heap.size,0,none⟩=false:=by simp
  have Z1:(w.alloc (.cells #[.int .i64 0,.int .i64 0] 38)).frozen? ⟨w.heap.size,1,none⟩=false:=by simp
  have hmf:∀(fn:Fn) (first cap:Array Value) (w:World),(Instr.makeFunc fn first cap).run Tryz.prog w=.ok (.func fn first cap) w:=fun _ _ _ _=>rfl
  clear hcall hx r1 r2 r4 u3 u4 hl hl1 hS1
  generalize hw1:w.alloc (.cells #[.int .i64 0,.int .i64 0] 38)=w1 at *
  go_enter_defers Tryz.func20,Tryz.ntmps20
  go_wp2
  refine hK.mono ?_
  intro e w2 hP
  unfold b4H at ho
  split at ho
  ·rename_i H1
   cases ho
   cases e with
   | returned x =>
    obtain⟨ρ',lab',s1,s2,s3,s4,s5,s6⟩:=hP
    have hx0:x=.tuple #[]:=by
     cases s4 with
     | tuple _ zs h1 h2 =>
      have:zs=[]:=by simpa using h1
      subst this;rfl
    subst hx0
    obtain⟨d0,e0⟩:=a9h s2 hB 0
    obtain⟨d1,e1⟩:=a9h s2 hB 1
    have d0:=d0.trans C0
    have d1:=d1.trans C1
    have E:=Ext.left hS G hB s2 (Wrote.refl _ w2)
    have S:=s1.left (fun p hp=>(hS.kp.1 p hp).1) s2 (Wrote.refl _ w2)
    unfold cellAt at d0 d1
    go_wp2
    refine leaves_cons (f:=41) (args:=#[.pointer (some ⟨w.heap.size,0,none⟩)]) (by simp) (by simp[go_sem]) ?_
    refine(b8K ⟨w.heap.size,0,none⟩ _).mono ?_
    rintro e u' w'' ⟨rfl,rfl,rfl⟩
    simp[Leaves,settle,results,Tryz.results20,go_sem,d0,d1]
    rw[a7J]at s3 s6
    exact⟨ρ',_,S,E,s3,.agg _ [.int .i64 0,.int .i64 0] rfl (agg2 _ _),s5,s6⟩
   | panicked ch=>exact hP.elim
   | outgrown=>exact hP.elim
  ·rename_i t fa fb H1
   obtain⟨ht,ho⟩:=I6 ho
   cases ho
   have ht:=Nat.eq_of_beq_eq_true ht
   subst ht
   cases e with
   | returned x=>exact hP.elim
   | panicked ch =>
    obtain⟨x,rfl,ρ',lab',s1,s2,s3,s4,s5,s6⟩:=hP
    obtain⟨xv,rfl,s7⟩:∃xv,x=.iface 87 xv/\xv=.agg #[.int .i64 fa,.int .i64 fb]:=by
     cases s4 with
     | iface _ _ xv h =>
      refine⟨xv,rfl,?_⟩
      cases h with
      | agg _ zs h1 h2 =>
       match zs,h1,h2 with
       | [z0,z1],_,h2 =>
        have q0:=h2 0 _ z0 rfl rfl
        have q1:=h2 1 _ z1 rfl rfl
        cases q0;cases q1;rfl
    subst s7
    obtain⟨d0,e0⟩:=a9h s2 hB 0
    obtain⟨d1,e1⟩:=a9h s2 hB 1
    have d0:=d0.trans C0
    have d1:=d1.trans C1
    have e0:=e0.trans Z0
    have e1:=e1.trans Z1
    unfold cellAt at d0 d1
    have hsz:w.heap.size<w2.heap.size:=Nat.lt_of_lt_of_le hB s2.size
    have hW:Wrote w.heap.size w2 (((w2.setCell ⟨w.heap.size,0,none⟩ (.int .i64 fa)).setCell ⟨w.heap.size,0+1,none⟩ (.int .i64 fb)).alloc (.cells #[.int .i64 fa,.int .i64 fb] 87)):=by
     refine⟨?_,rfl,rfl,rfl,fun b hb hn=>?_⟩
     ·refine Nat.le_trans ?_ (V5.push _ _).size
      rw[World.size_setCell,World.size_setCell]
      exact Nat.le_refl _
     ·refine((V5.push _ _).blk b (by rw[World.size_setCell,World.size_setCell];exact hb)).trans ?_
      rw[heap_setCell_other _ _ _ _ hn,heap_setCell_other _ _ _ _ hn]
    have c0:(w2.setCell ⟨w.heap.size,0,none⟩ (.int .i64 fa)).cell? ⟨w.heap.size,0+1,none⟩=some (.int .i64 0):=(World.cell?_setCell_other _ _ _ _ (by simp)).trans d1
    have f1:((w2.setCell ⟨w.heap.size,0,none⟩ (.int .i64 fa)).setCell ⟨w.heap.size,0+1,none⟩ (.int .i64 fb)).cell? ⟨w.heap.size,0+1,none⟩=some (.int .i64 fb):=World.cell?_setCell_same _ _ _ c0
    have f0:((w2.setCell ⟨w.heap.size,0,none⟩ (.int .i64 fa)).setCell ⟨w.heap.size,0+1,none⟩ (.int .i64 fb)).cell? ⟨w.heap.size,0,none⟩=some (.int .i64 fa):=(World.cell?_setCell_other _ _ _ _ (by simp)).trans (World.cell?_setCell_same _ _ _ d0)
    have hsz2:w.heap.size<((w2.setCell ⟨w.heap.size,0,none⟩ (.int .i64 fa)).setCell ⟨w.heap.size,0+1,none⟩ (.int .i64 fb)).heap.size:=by rw[World.size_setCell,World.size_setCell];exact hsz
    have GT:V5 _ (((w2.setCell ⟨w.heap.size,0,none⟩ (.int .i64 fa)).setCell ⟨w.heap.size,0+1,none⟩ (.int .i64 fb)).alloc (.cells #[.int .i64 fa,.int .i64 fb] 87)):=V5.push _ _
    have f0:=(GT.cell hsz2 0).trans f0
    have f1:=(GT.cell hsz2 (0+1)).trans f1
    unfold cellAt at f0 f1
    simp only[Nat.zero_add]at f0 f1
    have E:=Ext.left hS G hB s2 hW
    have S:=s1.left (fun p hp=>(hS.kp.1 p hp).1) s2 hW
    go_wp2
    refine leaves_cons (f:=41) (args:=#[.pointer (some ⟨w.heap.size,0,none⟩)]) (by simp) (by simp[go_sem]) ?_
    refine(b8L w.heap.size 0 0 0 fa fb .nilIface [] w2 d0 d1 e0 e1).mono ?_
    rintro e u' w'' ⟨rfl,rfl,rfl⟩
    simp[Leaves,settle,results,Tryz.results20,go_sem,f0,f1]
    rw[a7J]at s3 s6
    exact⟨ρ',_,S,E,s3,.agg _ [.int .i64 fa,.int .i64 fb] rfl (agg2 _ _),s5,s6⟩
   | outgrown=>exact hP.elim
  ·cases ho
 ·cases hp
end Go.Proofs.YtjhfloacokgdiaaGreatDoor
namespace Go.Proofs.YtjhfloacokgdiaaGreatDoor
open Go Go.Vm
def T:List (Nat×Ty):=[
 (1,⟨.func,1,8,[.nilFunc]⟩),
 (3,⟨.int .i64,1,8,[.i 0]⟩),
 (4,⟨.bool,1,1,[.bool false]⟩),
 (9,⟨.string,1,16,[.str []]⟩),
 (24,⟨.slice 26,1,24,[.slice .nil 0 []]⟩),
 (26,⟨.struct [(3,0),(9,1),(3,2),(24,3)],4,56,[.i 0,.str [],.i 0,.slice .nil 0 []]⟩),
 (27,⟨.slice 29,1,24,[.slice .nil 0 []]⟩),
 (29,⟨.struct [(3,0),(9,1),(3,2),(26,3),(24,7),(27,8),(3,9)],10,144,[.i 0,.str [],.i 0,.i 0,.str [],.i 0,.slice .nil 0 [],.slice .nil 0 [],.slice .nil 0 [],.i 0]⟩),
 (30,⟨.slice 38,1,24,[.slice .nil 0 []]⟩),
 (34,⟨.func,1,8,[.nilFunc]⟩),
 (36,⟨.int .i64,1,8,[.i 0]⟩),
 (38,⟨.struct [(36,0),(3,1)],2,16,[.i 0,.i 0]⟩),
 (41,⟨.slice 83,1,24,[.slice .nil 0 []]⟩),
 (46,⟨.ptr 50,1,8,[.nilptr]⟩),
 (50,⟨.struct [(41,0),(3,1),(3,2)],3,40,[.slice .nil 0 [],.i 0,.i 0]⟩),
 (62,⟨.slice 9,1,24,[.slice .nil 0 []]⟩),
 (73,⟨.func,1,8,[.nilFunc]⟩),
 (83,⟨.struct [(3,0),(9,1),(3,2),(3,3)],4,40,[.i 0,.str [],.i 0,.i 0]⟩),
 (87,⟨.struct [(38,0)],2,16,[.i 0,.i 0]⟩),
 (101,⟨.slice 126,1,24,[.slice .nil 0 []]⟩),
 (126,⟨.struct [(62,0),(4,1)],2,32,[.slice .nil 0 [],.bool false]⟩)]
def keep:Nat->Nat->List Nat
 | 6,130007=>[0,5,35]
 | 9,7=>[2,4,6,7,8]
 | 9,100022=>[2,6,8]
 | 9,190041=>[2,4,6,7,8,41]
 | 17,6=>[0,4,5,20,21,22]
 | 17,21=>[0,9,61,62,63]
 | 17,100017=>[0,4]
 | 17,100027=>[9]
 | 17,130020=>[0,9,10,60]
 | 17,130025=>[0,9,61,62,63,85]
 | 22,100017=>[0,2,3]
 | 22,100019=>[0,2,3]
 | 22,130020=>[0,2,3,56]
 | 23,4=>[0,4,5]
 | 23,100003=>[0,1]
 | 23,100006=>[0,4,5]
 | 23,100014=>[0]
 | 23,130009=>[0,4,5,6,57]
 | 23,130011=>[0,4,5,6,69]
 | 23,130013=>[0,4,5,79]
 | 24,3=>[2,3,9,10,11]
 | 24,100010=>[2,3]
 | 32,4=>[0,1,2,14,15]
 | 32,100010=>[]
 | 33,4=>[0,1,2,14,15]
 | 33,100010=>[]
 | 43,5=>[0,2,3]
 | 43,12=>[0,2,3]
 | 43,100013=>[0,2,3]
 | 43,100017=>[0,2,3]
 | 44,8=>[0,2,3]
 | 44,16=>[0,2,3]
 | 44,100017=>[0,2,3]
 | 44,100020=>[0,2,3]
 | 49,4=>[0,3]
 | 49,100010=>[0,3]
 | 50,3=>[0,3]
 | 50,100009=>[0,3,4]
 | 50,100014=>[0,3]
 | 50,100018=>[0,3]
 | 50,190013=>[0,3,13]
 | 51,3=>[0,3]
 | 51,11=>[0,3,4]
 | 51,100008=>[0,3,4]
 | 51,100014=>[0,3,4]
 | 51,100015=>[0,3,4]
 | 51,100017=>[3]
 | 66,100007=>[0,2,3]
 | 68,3=>[0,2,6,7,14,15]
 | 68,6=>[0,2,6,7,9,14,15]
 | 68,100014=>[0,2,6,7,14,15]
 | 68,100015=>[6,7]
 | 68,190065=>[0,2,6,7,9,14,15,65]
 | 91,4=>[0,3]
 | 92,100013=>[0,2,3]
 | 93,8=>[0,2,3]
 | 93,100011=>[0,2,3]
 | 93,100012=>[0,2,3]
 | 94,4=>[0,3]
 | 94,100013=>[0,3,4]
 | 99,2=>[0,1,7,8]
 | 99,100008=>[]
 | 112,4=>[0,2,3,4]
 | 112,100010=>[0,2,4,5]
 | 112,100017=>[0,2,4]
 | 129,5=>[0,3]
 | 129,100011=>[0,3,4]
 | 129,100016=>[0,3]
 | 131,5=>[0,1,4,5,6]
 | 131,9=>[0,1,4,7]
 | 131,100008=>[0,1,4,5,6]
 | 131,100009=>[0,1,4,5,6]
 | 131,100013=>[4,7]
 | 131,190038=>[0,1,4,7,38]
 | 132,2=>[0,3]
 | 132,100005=>[3]
 | 139,27=>[0,2,3]
 | 139,100030=>[0,2,3]
 | 139,100037=>[2,3]
 | 140,5=>[0,3]
 | 140,100011=>[0,3]
 | 140,100012=>[0,3]
 | 146,100016=>[0,1,4,5]
 | 146,130004=>[0,1,4,5,6]
 | 146,130006=>[0,1,4,5,16]
 | 147,100005=>[0,2,3]
 | 147,100027=>[2,5]
 | 147,130008=>[0,2,23,24]
 | 150,5=>[0,2,3,4]
 | 152,3=>[0,2,3]
 | 152,100008=>[2,3]
 | 157,100006=>[0,2,3]
 | 157,100010=>[0,2,3,4]
 | 157,130011=>[0,2,3,30]
 | 158,100011=>[2,3,4]
 | 158,100012=>[2,3]
 | 159,5=>[0,2,3]
 | 159,100012=>[0,2,3]
 | 159,100017=>[0,2,3]
 | 161,1=>[1]
 | 161,100004=>[1]
 | 173,6=>[0,2,3]
 | 173,100009=>[0,2,3]
 | 173,100025=>[2,3]
 | _,_=>[]
def cut:Nat->Nat->Bool
 | 6,30007=>true
 | 9,22=>true
 | 9,90041=>true
 | 17,17=>true
 | 17,27=>true
 | 17,30020=>true
 | 17,30025=>true
 | 22,17=>true
 | 22,19=>true
 | 22,30020=>true
 | 23,3=>true
 | 23,6=>true
 | 23,14=>true
 | 23,30009=>true
 | 23,30011=>true
 | 23,30013=>true
 | 24,10=>true
 | 32,10=>true
 | 33,10=>true
 | 43,13=>true
 | 43,17=>true
 | 44,17=>true
 | 44,20=>true
 | 49,10=>true
 | 50,9=>true
 | 50,14=>true
 | 50,18=>true
 | 50,90013=>true
 | 51,8=>true
 | 51,14=>true
 | 51,15=>true
 | 51,17=>true
 | 66,7=>true
 | 68,14=>true
 | 68,15=>true
 | 68,90065=>true
 | 92,13=>true
 | 93,11=>true
 | 93,12=>true
 | 94,13=>true
 | 99,8=>true
 | 112,10=>true
 | 112,17=>true
 | 129,11=>true
 | 129,16=>true
 | 131,8=>true
 | 131,9=>true
 | 131,13=>true
 | 131,90038=>true
 | 132,5=>true
 | 139,30=>true
 | 139,37=>true
 | 140,11=>true
 | 140,12=>true
 | 146,16=>true
 | 146,30004=>true
 | 146,30006=>true
 | 147,5=>true
 | 147,27=>true
 | 147,30008=>true
 | 152,8=>true
 | 157,6=>true
 | 157,10=>true
 | 157,30011=>true
 | 158,11=>true
 | 158,12=>true
 | 159,12=>true
 | 159,17=>true
 | 161,4=>true
 | 173,9=>true
 | 173,25=>true
 | _,_=>false
def b0E:List Nat:=[]
def a9C:Nat->Nat->Bool
 | 46,7=>true
 | 46,8=>true
 | 49,0=>true
 | 92,8=>true
 | 94,0=>true
 | 129,0=>true
 | 160,8=>true
 | f,_=>has f b0E
def a4x:Nat->Nat->Bool
 | f,_=>has f b0E
def slk:Nat->Nat->List (Nat×Nat)
 | 68,6=>[(7,6),(7,7),(7,8)]
 | 68,100014=>[(7,6),(7,7),(7,8)]
 | 112,4=>[(4,6),(4,7)]
 | 112,100017=>[(4,8)]
 | 131,9=>[(7,3)]
 | 139,100037=>[(3,8)]
 | 152,3=>[(3,6)]
 | _,_=>[]
def sep:Nat->Nat->Option (List Nat×List Nat)
 | 9,3=>some ([0,1,2,3,4],[5,1000002])
 | 18,2=>some ([0,1,2,3,5,4,6,7],[5])
 | 22,12=>some ([0,1,2,3,4,5,6],[30])
 | 22,22=>some ([0,1,2,3,4,5,6],[64])
 | 22,27=>some ([0,1,2,3,4,5,6],[79])
 | 42,3=>some ([0,1,2,3,4,5,6,7,8,9,10,11,12,13],[32,28,24])
 | 45,3=>some ([0,1,2,3,4,5,6,7],[7])
 | 51,10=>some ([0,1,2,3,4,5,6,7],[22])
 | 51,12=>some ([0,1,2,3,4,5,6,7],[31])
 | 68,7=>some ([0,1,2,3,4,5,6,7,8,9,10,11,12,13,14,15],[77,75,72,68])
 | 68,9=>some ([0,1,3,4,5,6,2,7,8,9],[])
 | 92,5=>some ([0,1,2,3,4,5,6],[15])
 | 92,13=>some ([0,1,2,3,4,5,6],[41])
 | 96,3=>some ([0,1,2,3,4,5,6,7,8,9,10,11],[20,18,14])
 | 112,5=>some ([0,2,3,4,5,1,6,7,8],[4,17])
 | 112,8=>some ([0,1,2,3,4,5,6],[25])
 | 112,12=>some ([0,1,2,3,4,5,6,7],[38,36])
 | 112,14=>some ([0,1,2,3,4,5,6],[48])
 | 131,11=>some ([0,2,3,1,4,5],[7])
 | 139,26=>some ([0,1,2,3,4,5,6,7],[77])
 | 139,28=>some ([0,1,2,3,4,5,6,7],[86])
 | 147,18=>some ([0,1,2,3,4,5,6,7],[56])
 | 147,37=>some ([0,1,2,3,4,5,6,7],[112])
 | 147,45=>some ([0,1,2,3,4,5,6,7],[144])
 | 150,5=>some ([0,1,2,3,4,5,6,7],[16])
 | 158,4=>some ([0,1,2,3,4,5,6,7],[13])
 | 159,9=>some ([0,1,2,3,4,5,6,7],[32])
 | 159,14=>some ([0,1,2,3,4,5,6,7],[54])
 | 173,5=>some ([0,1,2,3,4,5,6,7],[14])
 | 173,7=>some ([0,1,2,3,4,5,6,7],[23])
 | _,_=>none
def mask:Nat->Nat->List Nat
 | 9,3=>[0,0,2,1,15]
 | 18,2=>[0,0,2,7,15,0,31,127]
 | 22,12=>[0,1,0,4,15,31,63]
 | 22,22=>[0,1,0,4,15,31,63]
 | 22,27=>[0,1,0,4,15,31,63]
 | 42,3=>[0,1,3,7,0,16,48,112,0,496,1023,2047,0,8191]
 | 45,3=>[0,1,0,4,12,31,63,127]
 | 51,10=>[0,1,0,4,12,31,63,127]
 | 51,12=>[0,1,0,4,12,31,63,127]
 | 68,7=>[0,1,3,7,0,16,48,112,255,511,1023,0,2048,8191,0,32767]
 | 68,9=>[0,0,2,0,0,16,56,127,0,511]
 | 92,5=>[0,1,0,4,15,31,63]
 | 92,13=>[0,1,0,4,15,31,63]
 | 96,3=>[0,1,3,7,0,16,48,112,255,511,0,2047]
 | 112,5=>[0,1,0,4,0,16,63,0,255]
 | 112,8=>[0,1,0,4,15,31,63]
 | 112,12=>[0,1,0,4,0,16,63,127]
 | 112,14=>[0,1,0,4,15,31,63]
 | 131,11=>[0,1,0,4,15,31]
 | 139,26=>[0,1,0,4,12,31,63,127]
 | 139,28=>[0,1,0,4,12,31,63,127]
 | 147,18=>[0,1,0,4,12,31,63,127]
 | 147,37=>[0,1,0,4,12,31,63,127]
 | 147,45=>[0,1,0,4,12,31,63,127]
 | 150,5=>[0,1,0,4,12,31,63,127]
 | 158,4=>[0,1,0,4,12,31,63,127]
 | 159,9=>[0,1,0,4,12,31,63,127]
 | 159,14=>[0,1,0,4,12,31,63,127]
 | 173,5=>[0,1,0,4,12,31,63,127]
 | 173,7=>[0,1,0,4,12,31,63,127]
 | _,_=>[]
def okL:List Nat:=[6,7,9,11,12,17,18,19,21,22,23,24,31,32,33,35,36,39,42,43,44,45,46,47,48,49,50,51,52,53,66,67,68,90,91,92,93,94,95,96,97,98,99,112,129,130,131,132,139,140,146,147,149,150,151,152,157,158,159,160,161,173]
def b7u:List Nat:=[19]
def a7F:List Nat:=[6,7,8,9,11,12,16,17,24,30,31,32,33,39,40,53,67,88,99,146,161,162]
def b1U:List Nat:=[]
def tagL:List Nat:=[46,49,92,94,129,160]++b0E
def argL:List Nat:=[]++b0E
theorem tys:tysB Tryz.prog T=true:=by kernel_rfl
theorem mixed:Tryz.prog.follows .mixedOrders=true:=by kernel_rfl
def b23:Nat->Option Hand
 | 40=>some (.plain b1D)
 | 113=>some (.plain (a9E itoaF))
 | 162=>some (.plain b6I)
 | 20=>some (.via gPre b4H)
 | _=>none
noncomputable def a8t:Env:={P:=Tryz.prog,T:=T,keep:=keep,byref:=fun _ _=>none,meth:=fun _ _=>none,tags:=fun g=>has g tagL,argTags:=fun g=>has g argL,quiet:=fun g=>has g a7F,loose:=fun _=>false,ok:=fun g=>has g okL,cut:=cut,a9C:=a9C,a4x:=a4x,sep:=sep,mask:=mask,look:=fun g=>has g b7u,frz:=fun g=>has g b1U,slk:=slk,full:=true,mk0:=true,intr:=b23}
theorem b8Q:a8q a8t okL=true:=by kernel_rfl
theorem b5Y:a5f a8t:=by
 intro _ _ _ h
 cases h
theorem envOk0:a5d a8t:=⟨b5Y,a6d tys,mixed,a4Y (fun _ h=>h) b8Q,(fun g h hg=>by simp only[a8t,b23]at hg;first |(cases hg;done) |(split at hg<;>first |(cases hg;done) |(cases hg;exact b2j) |(cases hg;exact b4L) |(cases hg;exact b4m))),(fun g pre post hg=>by simp only[a8t,b23]at hg;first |(cases hg;done) |(split at hg<;>first |(cases hg;done) |(cases hg;exact a5Q)))⟩
end Go.Proofs.YtjhfloacokgdiaaGreatDoor
namespace Go.Proofs.YtjhfloacokgdiaaGreatDoor.Aw
open Go Go.Vm
structure Flt where
 code:Int
 at_:Int
def b6P (x:Flt):List V:=[.i x.code,.i x.at_]
def a6A:List Flt->List V
 | []=>[]
 | x::r=>.i x.code :: .i x.at_::a6A r
theorem b8T:a03 2 b6P a6A:=⟨fun _=>rfl,rfl,fun _ _=>rfl⟩
structure Typ where
 kind:Int
 name:Str
 n:Int
 args:List Typ
mutual
def Typ.sub:Typ->List V
 |⟨_,_,_,a3⟩=>D9 a3
def D9:List Typ->List V
 | []=>[]
 | x::r=>.i x.kind :: .str x.name :: .i x.n :: .slice .sealed (List.length x.args) (x.sub)::D9 r
end
def b6Q (x:Typ):List V:=[.i x.kind,.str x.name,.i x.n,.sl D9 x.args]
theorem b8W:a03 4 b6Q D9:=⟨fun _=>rfl,rfl,fun x r=>by cases x;rfl⟩
structure Nod where
 op:Int
 s:Str
 n:Int
 t:Typ
 ts:List Typ
 l:List Nod
 at_:Int
mutual
def Nod.sub:Nod->List V
 |⟨_,_,_,_,_,a5,_⟩=>F5 a5
def F5:List Nod->List V
 | []=>[]
 | x::r=>.i x.op :: .str x.s :: .i x.n :: .i x.t.kind :: .str x.t.name :: .i x.t.n :: .sl D9 x.t.args :: .sl D9 x.ts :: .slice .sealed (List.length x.l) (x.sub) :: .i x.at_::F5 r
end
def a5O (x:Nod):List V:=(c0 x.op x.s x.n x.t.kind x.t.name x.t.n (.sl D9 x.t.args) (.sl D9 x.ts) (.sl F5 x.l) x.at_)
theorem b8U:a03 10 a5O F5:=⟨fun _=>rfl,rfl,fun x r=>by cases x;rfl⟩
end Go.Proofs.YtjhfloacokgdiaaGreatDoor.Aw
namespace Go.Proofs.YtjhfloacokgdiaaGreatDoor.Aw
open Go Go.Vm
def T:List (Nat×Ty):=[
 (1,⟨.func,1,8,[.nilFunc]⟩),
 (2,⟨.int .i64,1,8,[.i 0]⟩),
 (3,⟨.int .i64,1,8,[.i 0]⟩),
 (4,⟨.bool,1,1,[.bool false]⟩),
 (5,⟨.int .u8,1,1,[.int .u8 0]⟩),
 (9,⟨.string,1,16,[.str []]⟩),
 (24,⟨.slice 26,1,24,[.slice .nil 0 []]⟩),
 (26,⟨.struct [(3,0),(9,1),(3,2),(24,3)],4,56,[.i 0,.str [],.i 0,.slice .nil 0 []]⟩),
 (27,⟨.slice 29,1,24,[.slice .nil 0 []]⟩),
 (29,⟨.struct [(3,0),(9,1),(3,2),(26,3),(24,7),(27,8),(3,9)],10,144,[.i 0,.str [],.i 0,.i 0,.str [],.i 0,.slice .nil 0 [],.slice .nil 0 [],.slice .nil 0 [],.i 0]⟩),
 (30,⟨.slice 38,1,24,[.slice .nil 0 []]⟩),
 (36,⟨.int .i64,1,8,[.i 0]⟩),
 (38,⟨.struct [(36,0),(3,1)],2,16,[.i 0,.i 0]⟩),
 (41,⟨.slice 83,1,24,[.slice .nil 0 []]⟩),
 (46,⟨.ptr 50,1,8,[.nilptr]⟩),
 (50,⟨.struct [(41,0),(3,1),(3,2)],3,40,[.slice .nil 0 [],.i 0,.i 0]⟩),
 (58,⟨.slice 5,1,24,[.slice .nil 0 []]⟩),
 (61,⟨.ptr 64,1,8,[.nilptr]⟩),
 (62,⟨.slice 9,1,24,[.slice .nil 0 []]⟩),
 (64,⟨.struct [(62,0)],1,24,[.slice .nil 0 []]⟩),
 (65,⟨.func,1,8,[.nilFunc]⟩),
 (67,⟨.iface,1,16,[.nilIface]⟩),
 (76,⟨.ptr 80,1,8,[.nilptr]⟩),
 (78,⟨.struct [(9,0),(3,1)],2,24,[.str [],.i 0]⟩),
 (80,⟨.struct [(78,0),(41,2),(38,3)],5,64,[.str [],.i 0,.slice .nil 0 [],.i 0,.i 0]⟩),
 (83,⟨.struct [(3,0),(9,1),(3,2),(3,3)],4,40,[.i 0,.str [],.i 0,.i 0]⟩),
 (87,⟨.struct [(38,0)],2,16,[.i 0,.i 0]⟩),
 (94,⟨.map 3 9,1,8,[.opq]⟩),
 (96,⟨.func,1,8,[.nilFunc]⟩),
 (99,⟨.func,1,8,[.nilFunc]⟩),
 (100,⟨.array 256 5,256,256,[.int .u8 0,.int .u8 0,.int .u8 0,.int .u8 0,.int .u8 0,.int .u8 0,.int .u8 0,.int .u8 0,.int .u8 0,.int .u8 0,.int .u8 0,.int .u8 0,.int .u8 0,.int .u8 0,.int .u8 0,.int .u8 0,.int .u8 0,.int .u8 0,.int .u8 0,.int .u8 0,.int .u8 0,.int .u8 0,.int .u8 0,.int .u8 0,.int .u8 0,.int .u8 0,.int .u8 0,.int .u8 0,.int .u8 0,.int .u8 0,.int .u8 0,.int .u8 0,.int .u8 0,.int .u8 0,.int .u8 0,.int .u8 0,.int .u8 0,.int .u8 0,.int .u8 0,.int .u8 0,.int .u8 0,.int .u8 0,.int .u8 0,.int .u8 0,.int .u8 0,.int .u8 0,.int .u8 0,.int .u8 0,.int .u8 0,.int .u8 0,.int .u8 0,.int .u8 0,.int .u8 0,.int .u8 0,.int .u8 0,.int .u8 0,.int .u8 0,.int .u8 0,.int .u8 0,.int .u8 0,.int .u8 0,.int .u8 0,.int .u8 0,.int .u8 0,.int .u8 0,.int .u8 0,.int .u8 0,.int .u8 0,.int .u8 0,.int .u8 0,.int .u8 0,.int .u8 0,.int .u8 0,.int .u8 0,.int .u8 0,.int .u8 0,.int .u8 0,.int .u8 0,.int .u8 0,.int .u8 0,.int .u8 0,.int .u8 0,.int .u8 0,.int .u8 0,.int .u8 0,.int .u8 0,.int .u8 0,.int .u8 0,.int .u8 0,.int .u8 0,.int .u8 0,.int .u8 0,.int .u8 0,.int .u8 0,.int .u8 0,.int .u8 0,.int .u8 0,.int .u8 0,.int .u8 0,.int .u8 0,.int .u8 0,.int .u8 0,.int .u8 0,.int .u8 0,.int .u8 0,.int .u8 0,.int .u8 0,.int .u8 0,.int .u8 0,.int .u8 0,.int .u8 0,.int .u8 0,.int .u8 0,.int .u8 0,.int .u8 0,.int .u8 0,.int .u8 0,.int .u8 0,.int .u8 0,.int .u8 0,.int .u8 0,.int .u8 0,.int .u8 0,.int .u8 0,.int .u8 0,.int .u8 0,.int .u8 0,.int .u8 0,.int .u8 0,.int .u8 0,.int .u8 0,.int .u8 0,.int .u8 0,.int .u8 0,.int .u8 0,.int .u8 0,.int .u8 0,.int .u8 0,.int .u8 0,.int .u8 0,.int .u8 0,.int .u8 0,.int .u8 0,.int .u8 0,.int .u8 0,.int .u8 0,.int .u8 0,.int .u8 0,.int .u8 0,.int .u8 0,.int .u8 0,.int .u8 0,.int .u8 0,.int .u8 0,.int .u8 0,.int .u8 0,.int .u8 0,.int .u8 0,.int .u8 0,.int .u8 0,.int .u8 0,.int .u8 0,.int .u8 0,.int .u8 0,.int .u8 0,.int .u8 0,.int .u8 0,.int .u8 0,.int .u8 0,.int .u8 0,.int .u8 0,.int .u8 0,.int .u8 0,.int .u8 0,.int .u8 0,.int .u8 0,.int .u8 0,.int .u8 0,.int .u8 0,.int .u8 0,.int .u8 0,.int .u8 0,.int .u8 0,.int .u8 0,.int .u8 0,.int .u8 0,.int .u8 0,.int .u8 0,.int .u8 0,.int .u8 0,.int .u8 0,.int .u8 0,.int .u8 0,.int .u8 0,.int .u8 0,.int .u8 0,.int .u8 0,.int .u8 0,.int .u8 0,.int .u8 0,.int .u8 0,.int .u8 0,.int .u8 0,.int .u8 0,.int .u8 0,.int .u8 0,.int .u8 0,.int .u8 0,.int .u8 0,.int .u8 0,.int .u8 0,.int .u8 0,.int .u8 0,.int .u8 0,.int .u8 0,.int .u8 0,.int .u8 0,.int .u8 0,.int .u8 0,.int .u8 0,.int .u8 0,.int .u8 0,.int .u8 0,.int .u8 0,.int .u8 0,.int .u8 0,.int .u8 0,.int .u8 0,.int .u8 0,.int .u8 0,.int .u8 0,.int .u8 0,.int .u8 0,.int .u8 0,.int .u8 0,.int .u8 0,.int .u8 0,.int .u8 0,.int .u8 0,.int .u8 0,.int .u8 0,.int .u8 0,.int .u8 0,.int .u8 0,.int .u8 0,.int .u8 0,.int .u8 0,.int .u8 0,.int .u8 0,.int .u8 0,.int .u8 0,.int .u8 0,.int .u8 0,.int .u8 0,.int .u8 0,.int .u8 0]⟩),
 (101,⟨.slice 126,1,24,[.slice .nil 0 []]⟩),
 (108,⟨.func,1,8,[.nilFunc]⟩),
 (113,⟨.slice 3,1,24,[.slice .nil 0 []]⟩),
 (126,⟨.struct [(62,0),(4,1)],2,32,[.slice .nil 0 [],.bool false]⟩),
 (131,⟨.ptr 78,1,8,[.nilptr]⟩),
 (134,⟨.array 32 9,32,512,[.str [],.str [],.str [],.str [],.str [],.str [],.str [],.str [],.str [],.str [],.str [],.str [],.str [],.str [],.str [],.str [],.str [],.str [],.str [],.str [],.str [],.str [],.str [],.str [],.str [],.str [],.str [],.str [],.str [],.str [],.str [],.str []]⟩),
 (136,⟨.array 27 9,27,432,[.str [],.str [],.str [],.str [],.str [],.str [],.str [],.str [],.str [],.str [],.str [],.str [],.str [],.str [],.str [],.str [],.str [],.str [],.str [],.str [],.str [],.str [],.str [],.str [],.str [],.str [],.str []]⟩),
 (177,⟨.array 24 5,24,24,[.int .u8 0,.int .u8 0,.int .u8 0,.int .u8 0,.int .u8 0,.int .u8 0,.int .u8 0,.int .u8 0,.int .u8 0,.int .u8 0,.int .u8 0,.int .u8 0,.int .u8 0,.int .u8 0,.int .u8 0,.int .u8 0,.int .u8 0,.int .u8 0,.int .u8 0,.int .u8 0,.int .u8 0,.int .u8 0,.int .u8 0,.int .u8 0]⟩),
 (178,⟨.int .u64,1,8,[.int .u64 0]⟩),
 (217,⟨.int .i64,1,8,[.i 0]⟩)]
def keep:Nat->Nat->List Nat
 | 9,7=>[2,4,6,7,8]
 | 24,3=>[2,3,9,10,11]
 | 25,13=>[0,48,49,50]
 | 25,21=>[0,69,70,71]
 | 25,37=>[0,118,119,120]
 | 30,2=>[0,8,9,10]
 | 30,9=>[0,5,8,9,10]
 | 38,2=>[0,1,2,7]
 | 49,4=>[0,3]
 | 56,3=>[1,5,11,12,13]
 | 56,6=>[1,5,7,11,12,13,17,18,19]
 | 59,5=>[0,3,23,24,25]
 | 59,15=>[0,52,53,54]
 | 68,3=>[0,2,6,7,14,15]
 | 68,6=>[0,2,6,7,9,14,15]
 | 75,1=>[0,2,8,9,10]
 | 77,0=>[0]
 | 86,3=>[0,3,4]
 | 93,8=>[0,2,3]
 | 94,4=>[0,3]
 | 99,2=>[0,1,7,8]
 | 102,3=>[0,10,11,12]
 | 112,4=>[0,2,3,4]
 | 116,40=>[0,140,141,142]
 | 122,2=>[0,1,5]
 | 126,2=>[0,1,5,6]
 | 129,5=>[0,3]
 | 131,5=>[0,1,4,5,6]
 | 131,9=>[0,1,4,7]
 | 132,2=>[0,3]
 | 139,27=>[0,2,3]
 | 174,10=>[5,6,47,48,49]
 | _,_=>[]
def cut:Nat->Nat->Bool
 | _,_=>false
def b0E:List Nat:=[16,18,19,21,22,24,25,27,35,37,38,42,45,46,47,48,49,52,54,55,56,59,60,61,66,67,68,69,73,75,77,78,80,83,85,86,87,90,92,93,94,95,96,97,98,102,103,104,112,116,121,122,125,126,127,129,130,131,132,133,139,146,147,149,162,174]
def a9C:Nat->Nat->Bool
 | f,_=>has f b0E
def a4x:Nat->Nat->Bool
 | f,_=>has f b0E
def slk:Nat->Nat->List (Nat×Nat)
 | _,_=>[]
def sep:Nat->Nat->Option (List Nat×List Nat)
 | 9,3=>some ([0,1,2,3,4],[5,1000002])
 | 18,2=>some ([0,1,2,3,5,4,6,7],[5])
 | 22,12=>some ([0,1,2,3,4,5,6],[30])
 | 22,22=>some ([0,1,2,3,4,5,6],[64])
 | 22,27=>some ([0,1,2,3,4,5,6],[79])
 | 42,3=>some ([0,1,2,3,4,5,6,7,8,9,10,11,12,13],[32,28,24])
 | 45,3=>some ([0,1,2,3,4,5,6,7],[7])
 | 68,7=>some ([0,1,2,3,4,5,6,7,8,9,10,11,12,13,14,15],[77,75,72,68])
 | 68,9=>some ([0,1,3,4,5,6,2,7,8,9],[])
 | 92,5=>some ([0,1,2,3,4,5,6],[15])
 | 92,13=>some ([0,1,2,3,4,5,6],[41])
 | 96,3=>some ([0,1,2,3,4,5,6,7,8,9,10,11],[20,18,14])
 | 112,5=>some ([0,2,3,4,5,1,6,7,8],[4,17])
 | 112,8=>some ([0,1,2,3,4,5,6],[25])
 | 112,12=>some ([0,1,2,3,4,5,6,7],[38,36])
 | 112,14=>some ([0,1,2,3,4,5,6],[48])
 | 131,11=>some ([0,2,3,1,4,5],[7])
 | 139,26=>some ([0,1,2,3,4,5,6,7],[77])
 | 139,28=>some ([0,1,2,3,4,5,6,7],[86])
 | 147,18=>some ([0,1,2,3,4,5,6,7],[56])
 | 147,37=>some ([0,1,2,3,4,5,6,7],[112])
 | 147,45=>some ([0,1,2,3,4,5,6,7],[144])
 | _,_=>none
def mask:Nat->Nat->List Nat
 | 9,3=>[0,0,2,1,15]
 | 18,2=>[0,0,2,7,15,0,31,127]
 | 22,12=>[0,1,0,4,15,31,63]
 | 22,22=>[0,1,0,4,15,31,63]
 | 22,27=>[0,1,0,4,15,31,63]
 | 42,3=>[0,1,3,7,0,16,48,112,0,496,1023,2047,0,8191]
 | 45,3=>[0,1,0,4,12,31,63,127]
 | 68,7=>[0,1,3,7,0,16,48,112,255,511,1023,0,2048,8191,0,32767]
 | 68,9=>[0,0,2,0,0,16,56,127,0,511]
 | 92,5=>[0,1,0,4,15,31,63]
 | 92,13=>[0,1,0,4,15,31,63]
 | 96,3=>[0,1,3,7,0,16,48,112,255,511,0,2047]
 | 112,5=>[0,1,0,4,0,16,63,0,255]
 | 112,8=>[0,1,0,4,15,31,63]
 | 112,12=>[0,1,0,4,0,16,63,127]
 | 112,14=>[0,1,0,4,15,31,63]
 | 131,11=>[0,1,0,4,15,31]
 | 139,26=>[0,1,0,4,12,31,63,127]
 | 139,28=>[0,1,0,4,12,31,63,127]
 | 147,18=>[0,1,0,4,12,31,63,127]
 | 147,37=>[0,1,0,4,12,31,63,127]
 | 147,45=>[0,1,0,4,12,31,63,127]
 | _,_=>[]
def okL:List Nat:=[8,9,16,18,19,21,22,24,25,27,30,35,37,38,42,45,46,47,48,49,52,53,54,55,56,59,60,61,66,67,68,69,73,75,77,78,80,82,83,84,85,86,87,90,92,93,94,95,96,97,98,99,102,103,104,112,113,116,120,121,122,124,125,126,127,129,130,131,132,133,139,141,146,147,149,153,162,163,174]
def b7u:List Nat:=[19]
def a7F:List Nat:=[8,9,10,30,53,82,84,99,113,120,124,141,153,163]
def b1U:List Nat:=[]
def tagL:List Nat:=[]++b0E
def argL:List Nat:=[]++b0E
theorem tys:tysB Tryz.prog T=true:=by kernel_rfl
theorem mixed:Tryz.prog.follows .mixedOrders=true:=by kernel_rfl
def b23:Nat->Option Hand
 | 40=>some (.plain b1D)
 | 20=>some (.via gPre b4H)
 | _=>none
noncomputable def a8t:Env:={P:=Tryz.prog,T:=T,keep:=keep,byref:=fun _ _=>none,meth:=fun _ _=>none,tags:=fun g=>has g tagL,argTags:=fun g=>has g argL,quiet:=fun g=>has g a7F,loose:=fun _=>false,ok:=fun g=>has g okL,cut:=cut,a9C:=a9C,a4x:=a4x,sep:=sep,mask:=mask,look:=fun g=>has g b7u,frz:=fun g=>has g b1U,slk:=slk,full:=true,intr:=b23}
theorem b8Q:a8q a8t okL=true:=by kernel_rfl
theorem b5Y:a5f a8t:=by
 intro _ _ _ h
 cases h
theorem envOk0:a5d a8t:=⟨b5Y,a6d tys,mixed,a4Y (fun _ h=>h) b8Q,(fun g h hg=>by simp only[a8t,b23]at hg;first |(cases hg;done) |(split at hg<;>first |(cases hg;done) |(cases hg;exact b2j))),(fun g pre post hg=>by simp only[a8t,b23]at hg;first |(cases hg;done) |(split at hg<;>first |(cases hg;done) |(cases hg;exact a5Q)))⟩
end Go.Proofs.YtjhfloacokgdiaaGreatDoor.Aw
namespace Go.Vm
open Go
variable {env:Env}
def rho0:Rho:=⟨fun _=>none,fun _ _=>none⟩
def lab0:Lab:=fun _ _=>none
theorem rho0_le (ρ:Rho):rho0.le ρ:=⟨fun _ _ h=>(by cases h),fun _ _ _ h=>(by cases h)⟩
def b2b (B:Nat):Rho:=⟨fun k=>if k=0 then some (some (B,0),none)else none,fun k n=>if k=1/\n=0 then some (none,0)else none⟩
def a1I (B:Nat):Lab:=fun b o=>if b=B/\o=0 then some (some 0)else none
def hp1:Hp:=[(0,.row [.slice (.tag 1) 0 []]),(1,.tip 0 0)]
theorem old_rel {w0 w:World}{B:Nat}(hB:w0.heap.size<=B)(hk:∀b,b<w0.heap.size->w.heap[b]? = w0.heap[b]?){v:V}{x:Value}(h:Rel rho0 lab0 w0 v x):Rel (b2b B) (a1I B) w v x:=by
 have h1:Rel rho0 (a1I B) w v x:=by
  refine h.carry fun b o x h=>?_
  have hb:=X3 h.cell
  refine⟨?_,?_⟩
  ·simp only[a1I]
   rw[if_neg (by omega)]
  ·simp only[cellAt,World.cell?,hk b hb]
   exact h.cell
 exact h1.ext (Ext.refl _ _) (rho0_le _)
theorem sim1 {w:World}{B:Nat}(hkp:KpW w)(hkB:∀p∈kpL,p.1<B)(hc:w.cell? ⟨B,0,none⟩=some (.slice none 0 0))(hz:w.frozen? ⟨B,0,none⟩=false):Sim (b2b B) (a1I B) hp1 w where
 kp:=⟨hkp,fun p hp o k h=>by
  simp only[a1I]at h
  rw[if_neg (by have:=hkB p hp;omega)]at h
  cases h⟩
 row:=fun k cs h=>by
  have:k=0/\cs=[.slice (.tag 1) 0 []]:=by
   simp only[hp1,hget]at h
   split at h
   ·rename_i hb;cases h;exact⟨(Nat.eq_of_beq_eq_true hb).symm,rfl⟩
   ·split at h
    ·cases h
    ·cases h
  obtain⟨rfl,rfl⟩:=this
  refine⟨B,0,[.slice none 0 0],by simp[b2b],?_,fun i x hx=>?_⟩
  ·refine A9.2 ⟨_,_,rfl,.slice _ 0 [] [] 0 0 none 0 rfl (Nat.le_refl _) (fun h=>by omega) (fun _=>rfl) (fun i x h=>by simp at h) (fun i v x h=>by simp at h) (by simp[b2b]) (by simp) (by simp),⟨rfl,by simp⟩⟩
  ·match i,hx with
   | 0,hx =>
    cases hx
    exact⟨⟨by simp[a1I],hz,_,hc⟩,hc⟩
   | i+1,hx=>simp at hx
 grow:=fun k e cs h=>by
  simp only[hp1,hget]at h
  split at h
  ·cases h
  ·split at h<;>cases h
 tip:=fun k e n h=>by
  have:k=1/\e=0/\n=0:=by
   simp only[hp1,hget]at h
   split at h
   ·cases h
   ·split at h
    ·rename_i hb;cases h;exact⟨(Nat.eq_of_beq_eq_true hb).symm,rfl,rfl⟩
    ·cases h
  obtain⟨rfl,rfl,rfl⟩:=this
  exact⟨none,0,by simp[b2b],Nat.le_refl _,fun _=>rfl,fun _=>rfl,fun a h=>by cases h⟩
 mp:=fun k es h=>by
  simp only[hp1,hget]at h
  split at h
  ·cases h
  ·split at h<;>cases h
 hdom:=fun k n x h=>by
  simp only[b2b]at h
  split at h
  ·rename_i hk
   obtain⟨rfl,rfl⟩:=hk
   exact⟨0,0,rfl,Nat.le_refl _⟩
  ·cases h
 adom:=fun k x h=>by
  simp only[b2b]at h
  split at h
  ·rename_i hk
   subst hk
   simp[hp1,hget]
  ·cases h
 ldom:=fun b o k h=>by
  simp only[a1I]at h
  split at h
  ·rename_i hb
   obtain⟨rfl,rfl⟩:=hb
   exact X3 hc
  ·cases h
theorem b04 {w w':World}{B:Nat}{lab':Lab}(E:Ext (a1I B) w lab' w'):Wrote B w w' :=
 ⟨E.size,E.os,E.tape,E.output,fun b hb hn=>E.blk b hb (fun o k h=>by
  simp only[a1I]at h
  rw[if_neg (fun h=>hn h.1)]at h
  cases h)⟩
theorem c2b (hE:a5d env){g1 g2:Nat}{c:V}{H1 H2:Hp}{s:List UInt8}
  (h1:E env (.call g1 [.ptr 0 0,c]) hp1=some (.ret (.tuple []) H1)) (h2:E env (.call g2 [.ptr 0 0]) H1=some (.ret (.str s) H2))
  {w0 w:World} {B:Nat} (hkp:KpW w0) (hkw:w0.heap.size<=w.heap.size) (hB:w0.heap.size<=B) (hk:∀b,b<w0.heap.size->w.heap[b]? = w0.heap[b]?) (hc:w.cell? ⟨B,0,none⟩=some (.slice none 0 0)) (hz:w.frozen? ⟨B,0,none⟩=false) {x:Value} (hx:Rel rho0 lab0 w0 c x) :
  Calls env.P g1 #[.pointer (some ⟨B,0,none⟩),x] w fun e w1=>e=.returned (.tuple #[])/\Wrote B w w1 /\
   Calls env.P g2 #[.pointer (some ⟨B,0,none⟩)] w1 fun e w2=>e=.returned (.string ⟨⟨s⟩⟩)/\Wrote B w w2:=by
 obtain⟨k1,hk1⟩:=(a0M env).at_ _ _ _ h1
 obtain⟨k2,hk2⟩:=(a0M env).at_ _ _ _ h2
 have hS:=sim1 (fun p hp=>⟨Nat.lt_of_lt_of_le (hkp p hp).1 hkw,by rw[hk p.1 (hkp p hp).1];exact(hkp p hp).2⟩) (fun p hp=>Nat.lt_of_lt_of_le (hkp p hp).1 hB) hc hz
 have hp:Rel (b2b B) (a1I B) w (.ptr 0 0) (.pointer (some ⟨B,0+0,none⟩)):=.ptr 0 0 B 0 none (by simp[b2b])
 have hL:G9 (b2b B) (a1I B) w [.ptr 0 0,c] [.pointer (some ⟨B,0,none⟩),x]:=A9.2 ⟨_,_,rfl,hp,A9.2 ⟨_,_,rfl,old_rel hB hk hx,⟨rfl,by simp⟩⟩⟩
 have C1:=(b3K hE k1).1.call g1 _ _ _ hk1 (b2b B) (a1I B) w _ ⟨rfl,rfl,trivial⟩ hS hL
 refine C1.mono fun e w1 hP=>?_
 cases e with
 | returned v =>
  obtain⟨ρ',lab',s1,s2,s3,s4,s5,s6⟩:=hP
  have hv:v=.tuple #[]:=by
   cases s4 with
   | tuple _ zs h1 h2 =>
    have:zs=[]:=by simpa using h1
    subst this;rfl
  refine⟨by rw[hv],b04 s2,?_⟩
  have ha:ρ'.at_ 0=some (some (B,0),none):=s3.at_ 0 _ (by decide) (by simp[b2b])
  have hp2:Rel ρ' lab' w1 (.ptr 0 0) (.pointer (some ⟨B,0+0,none⟩)):=.ptr 0 0 B 0 none ha
  have hL2:G9 ρ' lab' w1 [.ptr 0 0] [.pointer (some ⟨B,0,none⟩)]:=A9.2 ⟨_,_,rfl,hp2,⟨rfl,by simp⟩⟩
  have C2:=(b3K hE k2).1.call g2 _ _ _ hk2 ρ' lab' w1 _ s5 s1 hL2
  refine C2.mono fun e w2 hP=>?_
  cases e with
  | returned v2 =>
   obtain⟨ρ2,lab2,t1,t2,t3,t4,t5,t6⟩:=hP
   have hv2:v2=.string ⟨⟨s⟩⟩:=by cases t4;rfl
   exact⟨by rw[hv2],b04 (s2.trans t2)⟩
  | panicked ch=>exact hP.elim
  | outgrown=>exact hP.elim
 | panicked ch=>exact hP.elim
 | outgrown=>exact hP.elim
end Go.Vm
namespace Go.Proofs.YtjhfloacokgdiaaGreatDoor.Aw
open Go Go.Vm Go.RowKit Go.Lib
theorem nf_rel0 {ρ:Rho}{lab:Lab}{w:World}{v:V}{x:Value}(h:Rel ρ lab w v x)(hn:NF v):Rel rho0 lab0 w v x:=NF.rel (fun _ _ _=>rfl) h hn
theorem a6G {p:Prop}(h:p):Hid p:=h
def b1g (c:List V)(s:List UInt8):Prop:=∃H1 H2,E a8t (.call 25 [.ptr 0 0,.agg c]) hp1=some (.ret (.tuple []) H1)/\E a8t (.call 27 [.ptr 0 0]) H1=some (.ret (.str s) H2)
def printed (l:List (List UInt8)):List UInt8:=(l.map (· ++ [10])).flatten
theorem b6c {l:List (List UInt8)}{k:Nat}{s:List UInt8}(h:l[k]? = some s):printed (l.take (k+1))=printed (l.take k)++s++[10]:=by
 unfold printed
 rw[List.take_add_one,h]
 simp
theorem b9z (l:List (List UInt8))(k:Nat):(printed (l.take k)).length <=(printed l).length:=by
 have h:printed l=printed (l.take k)++printed (l.drop k):=by
  unfold printed
  rw[<-List.flatten_append,<-List.map_append,List.take_append_drop]
 rw[h,List.length_append];omega
theorem bld_kept {T e:TypeId}{B0 b:Nat}{bs:List Value}{w w':World}(h:IsBuilder T e B0 b bs w)(hk:∀k,k<w.heap.size->w'.heap[k]? = w.heap[k]?):IsBuilder T e B0 b bs w':=by
 have key:∀{p:Value},BuilderAt T e B0 b p bs w->BuilderAt T e B0 b p bs w':=by
  rintro p ⟨h1,v,h2,h3,h4⟩
  have hb:b<w.heap.size:=by
   rcases Nat.lt_or_ge b w.heap.size with h|h
   ·exact h
   ·rw[Array.getElem?_eq_none h]at h2;cases h2
  refine⟨h1,v,(hk b hb).trans h2,?_,h4⟩
  refine⟨h3.1,?_⟩
  rcases h3.2 with h5 |⟨g,cap,cur,h5,h6,h7,h8⟩
  ·exact .inl h5
  ·have hg:g<w.heap.size:=by
    rcases Nat.lt_or_ge g w.heap.size with h|h
    ·exact h
    ·rw[Array.getElem?_eq_none h]at h7;cases h7
   exact .inr ⟨g,cap,cur,h5,h6,(hk g hg).trans h7,h8⟩
 rcases h with h|h
 ·exact .inl (key h)
 ·exact .inr (key h)
theorem b7d (T e:TypeId)(B0:Nat)(w:World)(hB:B0<=w.heap.size):IsBuilder T e B0 w.heap.size [] (w.alloc (.cells #[.pointer none,.slice none 0 0] T)):=by
 have key:∀{p:Value},BuilderAt T e w.heap.size w.heap.size p [] (w.alloc (.cells #[.pointer none,.slice none 0 0] T))->BuilderAt T e B0 w.heap.size p [] (w.alloc (.cells #[.pointer none,.slice none 0 0] T)):=by
  rintro p ⟨h1,v,h2,h3,h4⟩
  refine⟨hB,v,h2,⟨h3.1,?_⟩,h4⟩
  rcases h3.2 with h5 |⟨g,cp,cur,h5,h6,r⟩
  ·exact .inl h5
  ·exact .inr ⟨g,cp,cur,h5,by omega,r⟩
 rcases fresh_isBuilder T e w with h|h
 ·exact .inl (key h)
 ·exact .inr (key h)
structure Kid (w:World)(b o:Nat)(s:List UInt8)(k:Nat):Prop where
 ex:∃c y0 y1 y2 y3 y4 y5 y6 y7 y8 y9,w.cell? ⟨b,o+k*10,none⟩=some y0/\w.cell? ⟨b,o+k*10+1,none⟩=some y1/\w.cell? ⟨b,o+k*10+2,none⟩=some y2/\w.cell? ⟨b,o+k*10+3,none⟩=some y3 /\
  w.cell? ⟨b,o+k*10+4,none⟩=some y4/\w.cell? ⟨b,o+k*10+5,none⟩=some y5/\w.cell? ⟨b,o+k*10+6,none⟩=some y6/\w.cell? ⟨b,o+k*10+7,none⟩=some y7/\w.cell? ⟨b,o+k*10+8,none⟩=some y8/\w.cell? ⟨b,o+k*10+9,none⟩=some y9 /\
  Rel rho0 lab0 w (.agg c) (.agg #[y0,y1,y2,y3,y4,y5,y6,y7,y8,y9])/\b1g c s /\ ∀y ∈ [y0,y1,y2,y3,y4,y5,y6,y7,y8,y9],y.oneCell'=true
theorem b8D {a b:Nat}{w w':World}(h:a<=b)(hB:Below b w w'):Below a w w':=⟨hB.os,hB.tape,hB.output,hB.size,fun k hk=>hB.block k (by omega)⟩
theorem b5g (w:World)(cs:Array Value)(t:TypeId)(i:Nat)(v:Value)(hi:i<cs.size)(hv:v.oneCell'=true):(store ⟨w.heap.size,i,none⟩ v).run Tryz.prog (w.alloc (.cells cs t))=.ok () (w.alloc (.cells (cs.setIfInBounds i v) t)):=by
 have h1:(w.alloc (.cells cs t)).cell? ⟨w.heap.size,i,none⟩=some cs[i]:=by simp[hi]
 have h2:(w.alloc (.cells cs t)).frozen? ⟨w.heap.size,i,none⟩=false:=by simp
 rw[run_store _ _ _ _ _ hv]
 simp[stored,go_sem,h1,h2,World.setCell_alloc_new]
theorem b9y (v0 v1 v2 v3 v4 v5 v6 v7 v9:Value)(ao:Option Addr)(b o cap:Nat)(l:List (List UInt8))(w:World)(hkp:KpW w)(hn:l.length<=cap)(hao:0<l.length->ao=some ⟨b,o,none⟩)
  (hb:0<l.length->b<w.heap.size) (hN:l.length<=140737488355328) (hK:∀(k:Nat) s,l[k]? = some s->Kid w b o s k) (hlen:(printed l).length<=140737488355328) :
  Calls Tryz.prog 10 #[.agg #[v0,v1,v2,v3,v4,v5,v6,v7,.slice ao l.length cap,v9]] w fun e w'=>e=.returned (.string ⟨(printed l).toArray⟩)/\Below w.heap.size w w':=by
 have HK:=a6G hK
 have Hlen:=a6G hlen
 have Hao:=a6G hao
 have Hb:=a6G hb
 clear hK hlen hao hb
 go_enter Tryz.func10,Tryz.ntmps10
 go_wp2_with fail
 go_loopw [10] (fun i wr=>∃k:Nat,k<=l.length/\i=.int .i64 k/\Hid (IsBuilder 60 5 w.heap.size (w.heap.size+1) (byteCells (printed (l.take k))) wr)/\Hid (Below w.heap.size w wr)) (fun i _=>l.length-(RowKit.intOf i).toNat)
 case atStart =>
  refine⟨0,Nat.zero_le _,rfl,a6G ?_,a6G ?_⟩
  ·have:=b7d 60 5 w.heap.size (w.alloc (.cells #[v0,v1,v2,v3,v4,v5,v6,v7,.slice ao l.length cap,v9] 29)) (by rw[World.size_alloc];omega)
   rw[World.size_alloc]at this
   exact this
  ·exact((Below.refl w.heap.size w).alloc (Nat.le_refl _) _).alloc (by rw[World.size_alloc];omega) _
 case round =>
  obtain⟨k,hk,rfl,HB,HW⟩:=hrel
  by_cases hkn:k<l.length
  ·obtain⟨s,hs⟩:∃s,l[k]? = some s:=⟨l[k],List.getElem?_eq_getElem hkn⟩
   have hao:=Hao.out (by omega)
   subst hao
   have hbw:=Hb.out (by omega)
   obtain⟨c,y0,y1,y2,y3,y4,y5,y6,y7,y8,y9,c0,c1,c2,c3,c4,c5,c6,c7,c8,c9,hr,hline,hone⟩:=(HK.out k s hs).ex
   have cc:∀j,wr.cell? ⟨b,j,none⟩=w.cell? ⟨b,j,none⟩:=fun j=>HW.out.cell (p:=⟨b,j,none⟩) hbw
   rw[<-cc]at c0 c1 c2 c3 c4 c5 c6 c7 c8 c9
   obtain⟨H1,H2,q1,q2⟩:=hline
   have Q1:=a6G q1
   have Q2:=a6G q2
   have HR:=a6G hr
   have Hs:=a6G hs
   have hBw:=HW.out.size
   clear q1 q2 hr hs cc
   go_wp2_with fail
   rw[b5g _ _ _ _ _ (by simp) (hone _ (by simp))]
   simp only[Result.andThen]
   repeat(rw[b5g _ _ _ _ _ (by simp) (hone _ (by simp))];simp only[Result.andThen])
   have hset:((((((((((#[Value.int .i64 0,.string {data:=#[]},.int .i64 0,.int .i64 0,.string {data:=#[]},.int .i64 0,.slice none 0 0,.slice none 0 0,.slice none 0 0,.int .i64 0].setIfInBounds 0 y0).setIfInBounds 1 y1).setIfInBounds 2 y2).setIfInBounds 3 y3).setIfInBounds 4 y4).setIfInBounds 5 y5).setIfInBounds 6 y6).setIfInBounds 7 y7).setIfInBounds 8 y8).setIfInBounds 9 y9) = #[y0,y1,y2,y3,y4,y5,y6,y7,y8,y9]:=by simp
   rw[hset]
   clear hset
   go_wp2_with fail
   have hsz:((wr.alloc (.cells #[y0,y1,y2,y3,y4,y5,y6,y7,y8,y9] 29)).alloc (.cells #[.slice none 0 0] 64)).heap.size=wr.heap.size+2:=by rw[World.size_alloc,World.size_alloc]
   have hold:∀j,j<wr.heap.size ->((wr.alloc (.cells #[y0,y1,y2,y3,y4,y5,y6,y7,y8,y9] 29)).alloc (.cells #[.slice none 0 0] 64)).heap[j]? = wr.heap[j]?:=fun j hj =>
    (alloc_old _ _ j (by rw[World.size_alloc];omega)).trans (alloc_old _ _ j hj)
   have hcW:((wr.alloc (.cells #[y0,y1,y2,y3,y4,y5,y6,y7,y8,y9] 29)).alloc (.cells #[.slice none 0 0] 64)).cell? ⟨wr.heap.size+1,0,none⟩=some (.slice none 0 0):=by
    have:=World.cell?_alloc_new (wr.alloc (.cells #[y0,y1,y2,y3,y4,y5,y6,y7,y8,y9] 29)) #[.slice none 0 0] 64 0
    rw[World.size_alloc]at this
    exact this
   have hzW:((wr.alloc (.cells #[y0,y1,y2,y3,y4,y5,y6,y7,y8,y9] 29)).alloc (.cells #[.slice none 0 0] 64)).frozen? ⟨wr.heap.size+1,0,none⟩=false:=by
    have:=World.frozen?_alloc_new (wr.alloc (.cells #[y0,y1,y2,y3,y4,y5,y6,y7,y8,y9] 29)) #[.slice none 0 0] 64 0
    rw[World.size_alloc]at this
    exact this
   refine(c2b envOk0 Q1.out Q2.out (w0:=w) (w:=((wr.alloc (.cells #[y0,y1,y2,y3,y4,y5,y6,y7,y8,y9] 29)).alloc (.cells #[.slice none 0 0] 64))) (B:=wr.heap.size+1) hkp (by rw[hsz];omega) (by omega) (fun j hj=>(hold j (by omega)).trans (HW.out.block j hj)) hcW hzW HR.out).mono ?_
   rintro e w1 ⟨rfl,hw1,C2⟩
   have CC:=a6G C2
   clear C2 hcW hzW
   go_wp2_with fail
   refine CC.out.mono ?_
   rintro e w2 ⟨rfl,hw2⟩
   have hk2:∀j,j<wr.heap.size->w2.heap[j]? = wr.heap[j]?:=fun j hj=>(hw2.blk j (by omega) (by omega)).trans (hold j hj)
   have hs2:wr.heap.size<=w2.heap.size:=by have:=hw2.size;omega
   have hlen:=Hlen.out
   have hlk:=b9z l (k+1)
   have hpt:=b6c Hs.out
   rw[hpt,List.length_append,List.length_append,List.length_singleton]at hlk
   have HB2:=a6G (bld_kept HB.out hk2)
   have HW2:=a6G (⟨hw2.os,hw2.tape,hw2.output,hs2,fun j hj=>hk2 j (by omega)⟩:Below wr.heap.size wr w2)
   have Hpt:=a6G hpt
   clear hw1 hw2 hk2 CC hold hsz hpt
   go_wp2_with fail
   refine(Tryz.Builder_WriteString w.heap.size (w.heap.size+1) _ ⟨⟨s⟩⟩ w2 HB2.out (by rw[byteCells_length];simp only[ByteArray.size];simp;omega) (by omega)).mono ?_
   rintro e w3 ⟨rfl,h3,hb3⟩
   have H3:=a6G h3
   have Hb3:=a6G hb3
   clear h3 hb3
   go_wp2_with fail
   refine(Tryz.Builder_WriteByte w.heap.size (w.heap.size+1) _ 10 w3 (.inr H3.out) (by rw[List.length_append,byteCells_length,strCells_length];simp only[ByteArray.size];simp;omega) (by have:=Hb3.out.size;omega)).mono ?_
   rintro e w4 ⟨rfl,h4,hb4⟩
   have hnext:byteCells (printed (l.take k))++strCells ⟨⟨s⟩⟩++[.int .u8 10]=byteCells (printed (l.take (k+1))):=by
    rw[Hpt.out,strCells_eq,byteCells_append,byteCells_append]
    rfl
   rw[hnext]at h4
   have H4:=a6G (Or.inr h4:IsBuilder 60 5 w.heap.size (w.heap.size+1) _ w4)
   have Hb4:=a6G ((HW.out.trans (b8D hBw HW2.out)).trans (Hb3.out.trans hb4))
   clear h4 hb4 hnext
   go_wp2
   exact⟨⟨k+1,by omega,by go_num,H4,Hb4⟩,by simp[RowKit.intOf];omega⟩
  ·have hke:k=l.length:=by omega
   subst hke
   have hB':=HB.out
   rw[List.take_length]at hB'
   have hBw:=HW.out.size
   have HB2:=a6G hB'
   clear hB'
   go_wp2_with fail
   refine(Tryz.Builder_String_any w.heap.size (w.heap.size+1) _ wr HB2.out hBw).mono ?_
   rintro e w5 ⟨rfl,hb5⟩
   have Hb5:=a6G (HW.out.trans hb5)
   clear hb5
   go_wp2
   go_ret
   exact⟨rfl,Hb5.out⟩
theorem b9g {c:List V}{s s':List UInt8}(h:b1g c s)(g:b1g c s'):s=s':=by
 obtain⟨H1,H2,a1,a2⟩:=h
 obtain⟨K1,K2,b1,b2⟩:=g
 rw[a1]at b1
 cases b1
 rw[a2]at b2
 cases b2
 rfl
inductive Lines:List V->List (List UInt8)->Prop
 | nil:Lines [] []
 | cons (c r:List V) (s:List UInt8) (l:List (List UInt8)):c.length=10->b1g c s->Lines r l->Lines (c++r) (s::l)
theorem Lines.det {cs:List V}{l:List (List UInt8)}(h:Lines cs l):∀{l'},Lines cs l'->l=l':=by
 induction h with
 | nil =>
  intro l' g
  generalize hq:([]:List V)=q at g
  cases g with
  | nil=>rfl
  | cons c r s l h1 h2 h3 =>
   have:=congrArg List.length hq
   rw[List.length_append]at this
   simp at this
   omega
 | cons c r s l h1 h2 h3 ih =>
  intro l' g
  generalize hq:c++r=q at g
  cases g with
  | nil =>
   have:=congrArg List.length hq
   rw[List.length_append,h1]at this
   simp only[List.length_nil]at this
   omega
  | cons c' r' s' l'' g1 g2 g3 =>
   obtain⟨rfl,rfl⟩:=List.append_inj hq (by rw[h1,g1])
   rw[b9g h2 g2,ih g3]
theorem Lines.get {cs:List V}{l:List (List UInt8)}(h:Lines cs l):∀{k:Nat} {s:List UInt8},l[k]? = some s->b1g ((cs.drop (k*10)).take 10) s/\k*10+10<=cs.length:=by
 induction h with
 | nil=>intro k s h;simp at h
 | cons c r s0 l h1 h2 h3 ih =>
  intro k s hk
  cases k with
  | zero =>
   simp only[List.getElem?_cons_zero,Option.some.injEq]at hk
   subst hk
   refine⟨?_,by rw[List.length_append];omega⟩
   rw[Nat.zero_mul,List.drop_zero,List.take_append_of_le_length (by omega),List.take_of_length_le (by omega)]
   exact h2
  | succ k =>
   simp only[List.getElem?_cons_succ]at hk
   obtain⟨g1,g2⟩:=ih hk
   refine⟨?_,by rw[List.length_append];omega⟩
   rw[show(k+1)*10=c.length+k*10 from by omega,<-List.drop_drop,List.drop_left]
   exact g1
noncomputable def b0h:List V->Hp->Option Out:=fun args H=>match args with
 | [.agg [_,_,_,_,_,_,_,_,.slice _ n cs,_]]=>@dite _ (∃l,Lines cs l/\l.length=n/\l.length<=140737488355328/\(printed l).length<=140737488355328) (Classical.propDecidable _) (fun h=>some (.ret (.str (printed h.choose)) H)) (fun _=>none)
 | _=>none
theorem c1E {c0 c1 c2 c3 c4 c5 c6 c7 c9:V}{ow:Own}{n:Nat}{cs:List V}{l:List (List UInt8)}{H:Hp}(h:Lines cs l)(hn:l.length=n)(hN:l.length<=140737488355328)(hl:(printed l).length<=140737488355328) :
  b0h [.agg [c0,c1,c2,c3,c4,c5,c6,c7,.slice ow n cs,c9]] H=some (.ret (.str (printed l)) H):=by
 have hex:∃l,Lines cs l/\l.length=n/\l.length<=140737488355328/\(printed l).length<=140737488355328:=⟨l,h,hn,hN,hl⟩
 have he:hex.choose=l:=(h.det hex.choose_spec.1).symm
 simp only[b0h]
 rw[dif_pos hex,he]
theorem ten {α:Type}(l:List α)(h:l.length=10):∃y0 y1 y2 y3 y4 y5 y6 y7 y8 y9,l=[y0,y1,y2,y3,y4,y5,y6,y7,y8,y9]:=by
 match l,h with
 | [y0,y1,y2,y3,y4,y5,y6,y7,y8,y9],_=>exact⟨_,_,_,_,_,_,_,_,_,_,rfl⟩
theorem print_ok:a5e Tryz.prog 10 b0h:=by
 refine⟨fun args H out h ρ lab w xs hc hS hx=>?_,⟨_,_,Tryz.func10,rfl,rfl⟩⟩
 unfold b0h at h
 split at h
 ·rename_i c0 c1 c2 c3 c4 c5 c6 c7 ow n cs c9
  split at h
  ·rename_i hex
   cases h
   obtain⟨hL,hn,hN,hlen⟩:=hex.choose_spec
   generalize hex.choose=l at hL hn hN hlen
   obtain⟨x1,r1,rfl,a1,a2⟩:=A9.1 hx
   have:r1=[]:=by have:=a2.1;simpa using this
   subst this
   cases a1 with
   | agg _ vs e1 e2 =>
   obtain⟨v0,v1,v2,v3,v4,v5,v6,v7,v8,v9,rfl⟩:=ten vs (by rw[e1];rfl)
   have q8:=e2 8 _ _ rfl rfl
   cases q8 with
   | slice _ _ _ ys b o ao cap g1 g2 g3 g4 g5 g6 g7 g8 g9 =>
   subst hn
   have K:=b9y v0 v1 v2 v3 v4 v5 v6 v7 v9 ao b o cap l w hS.kp.1 g2 g3 (fun h0=>?_) hN (fun k s hk=>⟨?_⟩) hlen
   ·refine K.mono fun e w' ⟨he,hw⟩=>?_
    subst he
    have G:V5 w w':=⟨hw.size,hw.os,hw.tape,hw.output,fun b hb=>hw.block b hb⟩
    exact⟨ρ,lab,hS.grew G,G.ext lab,⟨fun _ _ _ h=>h,fun _ _ _ _ h=>h⟩,.str _,hc,Nat.le_refl _⟩
   ·obtain⟨_,h2⟩:=hL.get (List.getElem?_eq_getElem h0)
    have hy:0<ys.length:=by rw[g1];omega
    have:=g5 0 ys[0] (by simp[hy])
    exact X3 this.cell
   ·obtain⟨h1,h2⟩:=hL.get hk
    have hlen2:((ys.drop (k*10)).take 10).length=10:=by
     rw[List.length_take,List.length_drop,g1];omega
    obtain⟨y0,y1,y2,y3,y4,y5,y6,y7,y8,y9,hy⟩:=ten _ hlen2
    have get:∀j,j<10 -> ∀y,[y0,y1,y2,y3,y4,y5,y6,y7,y8,y9][j]? = some y->ys[k*10+j]? = some y:=by
     intro j hj y hyj
     rw[<-hy,List.getElem?_take,if_pos hj,List.getElem?_drop]at hyj
     exact hyj
    have cell:∀j,j<10 -> ∀y,[y0,y1,y2,y3,y4,y5,y6,y7,y8,y9][j]? = some y->w.cell? ⟨b,o+k*10+j,none⟩=some y:=by
     intro j hj y hyj
     have:=(g5 _ _ (get j hj y hyj)).cell
     rw[<-Nat.add_assoc]at this
     exact this
    refine⟨(cs.drop (k*10)).take 10,y0,y1,y2,y3,y4,y5,y6,y7,y8,y9,cell 0 (by omega) _ rfl,cell 1 (by omega) _ rfl,cell 2 (by omega) _ rfl,cell 3 (by omega) _ rfl,cell 4 (by omega) _ rfl,cell 5 (by omega) _ rfl,cell 6 (by omega) _ rfl,cell 7 (by omega) _ rfl,cell 8 (by omega) _ rfl,cell 9 (by omega) _ rfl,?_,h1,?_⟩
    ·refine .agg _ [y0,y1,y2,y3,y4,y5,y6,y7,y8,y9] ?_ (fun i v x hv hx=>?_)
     ·rw[List.length_take,List.length_drop]
      show 10=_
      omega
     ·have hi:i<10:=by
       rcases Nat.lt_or_ge i 10 with h|h
       ·exact h
       ·rw[List.getElem?_eq_none (by simpa using h)]at hx;cases hx
      rw[List.getElem?_take,if_pos hi,List.getElem?_drop]at hv
      exact nf_rel0 (g6 _ _ _ hv (get i hi x hx)) (g9 v (List.mem_of_getElem? hv))
    ·intro y hyy
     obtain⟨j,hj,rfl⟩:=List.mem_iff_getElem.1 hyy
     exact g8 _ (List.mem_of_getElem? (get j (by simpa using hj) _ (by simp[hj])))
  ·cases h
 ·cases h
end Go.Proofs.YtjhfloacokgdiaaGreatDoor.Aw
namespace Go.Proofs.YtjhfloacokgdiaaGreatDoor.Aw
open Go Go.Vm
noncomputable def a8B:Nat->Option Hand
 | 40=>some (.plain b1D)
 | 10=>some (.plain b0h)
 | 20=>some (.via gPre b4H)
 | _=>none
noncomputable def env:Env:={P:=Tryz.prog,T:=T,keep:=keep,byref:=fun _ _=>none,meth:=fun _ _=>none,tags:=fun g=>has g tagL,argTags:=fun g=>has g argL,quiet:=fun g=>has g a7F,loose:=fun _=>false,ok:=fun g=>has g okL,cut:=cut,a9C:=a9C,a4x:=a4x,sep:=sep,mask:=mask,look:=fun g=>has g b7u,frz:=fun g=>has g b1U,slk:=slk,full:=true,intr:=a8B}
theorem codes:a8q env okL=true:=by kernel_rfl
theorem b3j:a5f env:=by
 intro _ _ _ h
 cases h
theorem b1A:a5d env:=⟨b3j,a6d tys,mixed,a4Y (fun _ h=>h) codes,(fun g h hg=>by simp only[env,a8B]at hg;first |(cases hg;done) |(split at hg<;>first |(cases hg;done) |(cases hg;exact b2j) |(cases hg;exact print_ok))),(fun g pre post hg=>by simp only[env,a8B]at hg;first |(cases hg;done) |(split at hg<;>first |(cases hg;done) |(cases hg;exact a5Q)))⟩
end Go.Proofs.YtjhfloacokgdiaaGreatDoor.Aw
