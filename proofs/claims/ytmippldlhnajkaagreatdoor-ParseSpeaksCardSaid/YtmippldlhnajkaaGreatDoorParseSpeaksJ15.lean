/- What the functions under ParseSpeaks compute, step by step, as functions in Lean: texts that were built one by one, joined. -/
import Derived.Test.YtmippldlhnajkaaGreatDoorParseSpeaksJ14
set_option maxRecDepth 100000
set_option maxHeartbeats 20000000
set_option linter.unusedSimpArgs false
set_option linter.unusedVariables false
set_option linter.unusedSectionVars false
namespace Go.Proofs.YtmippldlhnajkaaGreatDoor.Aw
open Go Go.Vm
def modG (a1N:Str):Option (Nod×List Flt):=match decide (a1N=srcA)with
 | true=>some (b5q,[])
 | false=>none
noncomputable def b5H (n1:Nod):Option Str:=match E env (.call 9 [.agg (c0 n1.op n1.s n1.n n1.t.kind n1.t.name n1.t.n (.sl C9 n1.t.args) (.sl C9 n1.ts) (.sl F5 n1.l) n1.at_)]) []with
 | some (.ret (.str s) [])=>some s
 | _=>none
end Go.Proofs.YtmippldlhnajkaaGreatDoor.Aw
namespace Go.Proofs.YtmippldlhnajkaaGreatDoor.Aw
open Go Go.Vm
noncomputable def a7n:Option (Bool) :=
 (modG [102,117,110,99,32,102,40,120,58,32,73,110,116,41,32,45,62,32,73,110,116,32,123,32,114,101,116,117,114,110,32,120,32,43,32,50,32,42,32,51,59,32,125]).bind fun(nn1,ll2) =>
 cond (eqB (List.length ll2:Int) 0) (
 (b5H nn1).bind fun rr3 =>
 some ((eqS rr3 [102,117,110,99,32,102,32,40,32,120,32,58,32,73,110,116,32,41,32,45,62,32,73,110,116,32,123,32,114,101,116,117,114,110,32,40,32,120,32,43,32,40,32,50,32,42,32,51,32,41,32,41,32,59,32,125,10]))) (
 some (false))
def b36:Bool->Out
 | U3=>.ret (.bool U3) []
end Go.Proofs.YtmippldlhnajkaaGreatDoor.Aw
namespace Go.Proofs.YtmippldlhnajkaaGreatDoor.Aw
open Go Go.Vm
theorem modG_ok {a1N:Str}{nn:Nod}{ll:List Flt}(h:modG a1N=some (nn,ll)):E env (.call 24 [.str a1N]) []=some (.ret (.tuple [.agg (c0 nn.op nn.s nn.n nn.t.kind nn.t.name nn.t.n (.sl C9 nn.t.args) (.sl C9 nn.ts) (.sl F5 nn.l) nn.at_),.sl b1q ll]) []):=by
 unfold modG at h
 split at h
 ·rename_i hs
  have hs:=of_decide_eq_true hs
  subst hs
  cases h
  exact modA_E
 ·cases h
theorem c3P {n1:Nod}{rr:Str}(h:b5H n1=some rr):E env (.call 9 [.agg (c0 n1.op n1.s n1.n n1.t.kind n1.t.name n1.t.n (.sl C9 n1.t.args) (.sl C9 n1.ts) (.sl F5 n1.l) n1.at_)]) []=some (.ret (.str rr) []):=by
 unfold b5H at h
 split at h
 ·rename_i he
  cases h
  exact he
 ·cases h
end Go.Proofs.YtmippldlhnajkaaGreatDoor.Aw
namespace Go.Proofs.YtmippldlhnajkaaGreatDoor.Aw
open Go Go.Vm
theorem b5d {r:Bool}(h:a7n=some r) :
  E env (.call 7 []) []=some (b36 r):=by
 unfold a7n at h
 refine A8 rfl Tryz.func7 rfl rfl ?_
 refine eSG (oB 1 rfl (eSG ?_))
 obtain⟨⟨nn1,ll2⟩,g1,h⟩:=a2i h
 obtain⟨nn1_0,nn1_1,nn1_2,⟨nn1_3,nn1_4,nn1_5,nn1_6⟩,nn1_7,nn1_8,nn1_9⟩:=nn1
 refine G9 rfl rfl rfl rfl rfl (modG_ok g1) rfl ?_
 refine oB 6 rfl (eSG (oA 4 rfl ?_))
 refine E9 rfl rfl rfl (fun g2=>?_) (fun g2=>?_)
 ·replace h:=cond_t h g2
  refine oA 1 rfl ?_
  obtain⟨rr3,g3,h⟩:=a2i h
  refine G9 rfl rfl rfl rfl rfl (c3P g3) rfl ?_
  refine oB 3 rfl ?_
  cases h
  exact u7 ⟨_,_,_,rfl,rfl,rfl⟩
 ·replace h:=cond_f h g2
  refine oB 5 rfl ?_
  cases h
  exact u7 ⟨_,_,_,rfl,rfl,rfl⟩
end Go.Proofs.YtmippldlhnajkaaGreatDoor.Aw
namespace Go.Proofs.YtmippldlhnajkaaGreatDoor.Aw
open Go Go.Vm
theorem a3T {a b:Int}(h:a=b):eqB a b=true:=by simp[eqB,h]
theorem a90 (s:Str):eqS s s=true:=by simp[eqS]
theorem awake_ok:a7n=some true:=by
 unfold a7n
 have h1:modG [102,117,110,99,32,102,40,120,58,32,73,110,116,41,32,45,62,32,73,110,116,32,123,32,114,101,116,117,114,110,32,120,32,43,32,50,32,42,32,51,59,32,125]=some (b5q,[]):=by
  unfold modG
  rw[show decide (_=srcA)=true from by decide]
 rw[h1,Option.bind_some]
 simp only[List.length_nil]
 rw[show eqB ((0:Nat):Int) 0=true from a3T rfl,cond_true]
 have h2:b5H b5q=some (printed [b3O]):=by
  unfold b5H
  have h3:=printA_E
  unfold a7h at h3
  rw[h3]
 rw[h2,Option.bind_some]
 have h4:eqS (printed [b3O]) [102,117,110,99,32,102,32,40,32,120,32,58,32,73,110,116,32,41,32,45,62,32,73,110,116,32,123,32,114,101,116,117,114,110,32,40,32,120,32,43,32,40,32,50,32,42,32,51,32,41,32,41,32,59,32,125,10]=true:=by
  have:printed [b3O]=[102,117,110,99,32,102,32,40,32,120,32,58,32,73,110,116,32,41,32,45,62,32,73,110,116,32,123,32,114,101,116,117,114,110,32,40,32,120,32,43,32,40,32,50,32,42,32,51,32,41,32,41,32,59,32,125,10]:=by decide
  rw[this,a90]
 rw[h4]
theorem awake_E:E env (.call 7 []) []=some (.ret (.bool true) []):=b5d awake_ok
def c0K:List V->Option V:=fun args=>match args with
 | []=>some (.bool true)
 | _=>none
theorem c0L:a6A Tryz.prog 7 (a7R c0K):=by
 refine b4F b3G (fun args v h=>?_) ⟨_,_,Tryz.func7,by kernel_rfl,rfl⟩
 unfold c0K at h
 split at h
 ·cases h
  exact⟨rfl,rfl,awake_E⟩
 ·cases h
end Go.Proofs.YtmippldlhnajkaaGreatDoor.Aw
