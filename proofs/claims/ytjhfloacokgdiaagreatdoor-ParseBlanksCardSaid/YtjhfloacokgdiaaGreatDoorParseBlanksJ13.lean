/- Texts of ParseBlanks, joined. -/
import Derived.Test.YtjhfloacokgdiaaGreatDoorParseBlanksJ12
set_option maxRecDepth 100000
set_option maxHeartbeats 20000000
set_option linter.unusedSimpArgs false
set_option linter.unusedVariables false
set_option linter.unusedSectionVars false
namespace Go.Proofs.YtjhfloacokgdiaaGreatDoor.Aw
open Go Go.Vm
def modG (V3:Str):Option (Nod×List Flt):=match decide (V3=srcA)with
 | true=>some (b3l,[])
 | false=>none
noncomputable def b3B (n1:Nod):Option Str:=match E env (.call 10 [.agg (c0 n1.op n1.s n1.n n1.t.kind n1.t.name n1.t.n (.sl D9 n1.t.args) (.sl D9 n1.ts) (.sl F5 n1.l) n1.at_)]) []with
 | some (.ret (.str s) [])=>some s
 | _=>none
end Go.Proofs.YtjhfloacokgdiaaGreatDoor.Aw
namespace Go.Proofs.YtjhfloacokgdiaaGreatDoor.Aw
open Go Go.Vm
noncomputable def a5U:Option (Bool) :=
 (modG [102,117,110,99,32,102,40,120,58,32,73,110,116,41,32,45,62,32,73,110,116,32,123,32,114,101,116,117,114,110,32,120,32,43,32,50,32,42,32,51,59,32,125]).bind fun(nn1,ll2) =>
 cond (eqB (List.length ll2:Int) 0) (
 (b3B nn1).bind fun rr3 =>
 some ((eqS rr3 [102,117,110,99,32,102,32,40,32,120,32,58,32,73,110,116,32,41,32,45,62,32,73,110,116,32,123,32,114,101,116,117,114,110,32,40,32,120,32,43,32,40,32,50,32,42,32,51,32,41,32,41,32,59,32,125,10]))) (
 some (false))
def b1V:Bool->Out
 | T9=>.ret (.bool T9) []
end Go.Proofs.YtjhfloacokgdiaaGreatDoor.Aw
namespace Go.Proofs.YtjhfloacokgdiaaGreatDoor.Aw
open Go Go.Vm
theorem modG_ok {V3:Str}{nn:Nod}{ll:List Flt}(h:modG V3=some (nn,ll)):E env (.call 9 [.str V3]) []=some (.ret (.tuple [.agg (c0 nn.op nn.s nn.n nn.t.kind nn.t.name nn.t.n (.sl D9 nn.t.args) (.sl D9 nn.ts) (.sl F5 nn.l) nn.at_),.sl a6A ll]) []):=by
 unfold modG at h
 split at h
 ·rename_i hs
  have hs:=of_decide_eq_true hs
  subst hs
  cases h
  exact modA_E
 ·cases h
theorem c1D {n1:Nod}{rr:Str}(h:b3B n1=some rr):E env (.call 10 [.agg (c0 n1.op n1.s n1.n n1.t.kind n1.t.name n1.t.n (.sl D9 n1.t.args) (.sl D9 n1.ts) (.sl F5 n1.l) n1.at_)]) []=some (.ret (.str rr) []):=by
 unfold b3B at h
 split at h
 ·rename_i he
  cases h
  exact he
 ·cases h
end Go.Proofs.YtjhfloacokgdiaaGreatDoor.Aw
namespace Go.Proofs.YtjhfloacokgdiaaGreatDoor.Aw
open Go Go.Vm
theorem b29 {r:Bool}(h:a5U=some r) :
  E env (.call 8 []) []=some (b1V r):=by
 unfold a5U at h
 refine E5 rfl Tryz.func8 rfl rfl ?_
 refine eSG (oB 1 rfl (eSG ?_))
 obtain⟨⟨nn1,ll2⟩,g1,h⟩:=a1b h
 obtain⟨nn1_0,nn1_1,nn1_2,⟨nn1_3,nn1_4,nn1_5,nn1_6⟩,nn1_7,nn1_8,nn1_9⟩:=nn1
 refine a0Q rfl rfl rfl rfl rfl (modG_ok g1) rfl ?_
 refine oB 6 rfl (eSG (oA 4 rfl ?_))
 refine O4 rfl rfl rfl (fun g2=>?_) (fun g2=>?_)
 ·replace h:=cond_t h g2
  refine oA 1 rfl ?_
  obtain⟨rr3,g3,h⟩:=a1b h
  refine a0Q rfl rfl rfl rfl rfl (c1D g3) rfl ?_
  refine oB 3 rfl ?_
  cases h
  exact F4 ⟨_,_,_,rfl,rfl,rfl⟩
 ·replace h:=cond_f h g2
  refine oB 5 rfl ?_
  cases h
  exact F4 ⟨_,_,_,rfl,rfl,rfl⟩
end Go.Proofs.YtjhfloacokgdiaaGreatDoor.Aw
namespace Go.Proofs.YtjhfloacokgdiaaGreatDoor.Aw
open Go Go.Vm
theorem a3L {a b:Int}(h:a=b):eqB a b=true:=by simp[eqB,h]
theorem a5n (s:Str):eqS s s=true:=by simp[eqS]
theorem awake_ok:a5U=some true:=by
 unfold a5U
 have h1:modG [102,117,110,99,32,102,40,120,58,32,73,110,116,41,32,45,62,32,73,110,116,32,123,32,114,101,116,117,114,110,32,120,32,43,32,50,32,42,32,51,59,32,125]=some (b3l,[]):=by
  unfold modG
  rw[show decide (_=srcA)=true from by decide]
 rw[h1,Option.bind_some]
 simp only[List.length_nil]
 rw[show eqB ((0:Nat):Int) 0=true from a3L rfl,cond_true]
 have h2:b3B b3l=some (printed [b1I]):=by
  unfold b3B
  have h3:=printA_E
  unfold a5O at h3
  rw[h3]
 rw[h2,Option.bind_some]
 have h4:eqS (printed [b1I]) [102,117,110,99,32,102,32,40,32,120,32,58,32,73,110,116,32,41,32,45,62,32,73,110,116,32,123,32,114,101,116,117,114,110,32,40,32,120,32,43,32,40,32,50,32,42,32,51,32,41,32,41,32,59,32,125,10]=true:=by
  have:printed [b1I]=[102,117,110,99,32,102,32,40,32,120,32,58,32,73,110,116,32,41,32,45,62,32,73,110,116,32,123,32,114,101,116,117,114,110,32,40,32,120,32,43,32,40,32,50,32,42,32,51,32,41,32,41,32,59,32,125,10]:=by decide
  rw[this,a5n]
 rw[h4]
theorem awake_E:E env (.call 8 []) []=some (.ret (.bool true) []):=b29 awake_ok
def b8A:List V->Option V:=fun args=>match args with
 | []=>some (.bool true)
 | _=>none
theorem b8B:a5e Tryz.prog 8 (a9E b8A):=by
 refine b2w b1A (fun args v h=>?_) ⟨_,_,Tryz.func8,by kernel_rfl,rfl⟩
 unfold b8A at h
 split at h
 ·cases h
  exact⟨rfl,rfl,awake_E⟩
 ·cases h
end Go.Proofs.YtjhfloacokgdiaaGreatDoor.Aw
namespace Go.Proofs.YtjhfloacokgdiaaGreatDoor.Tr
open Go Go.Vm Aw
theorem trim_run:run env 60 (.call 30 [.str []]) []=some (.ret (.str []) []):=by kernel_rfl
def trimF:List V->Option V:=fun args=>match args with
 | [.str []]=>some (.str [])
 | _=>none
theorem c2a:a5e Tryz.prog 30 (a9E trimF):=by
 refine b2w b1A (fun args v h=>?_) ⟨_,_,Tryz.func30,by kernel_rfl,rfl⟩
 unfold trimF at h
 split at h
 ·cases h
  exact⟨rfl,rfl,(a0M env).le 60 _ _ _ trim_run⟩
 ·cases h
end Go.Proofs.YtjhfloacokgdiaaGreatDoor.Tr
