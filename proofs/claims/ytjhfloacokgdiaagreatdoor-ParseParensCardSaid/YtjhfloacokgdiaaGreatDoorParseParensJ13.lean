/- Texts of ParseParens, joined. -/
import Derived.Test.YtjhfloacokgdiaaGreatDoorParseParensJ12
set_option maxRecDepth 100000
set_option maxHeartbeats 20000000
set_option linter.unusedSimpArgs false
set_option linter.unusedVariables false
set_option linter.unusedSectionVars false
namespace Go.Proofs.YtjhfloacokgdiaaGreatDoor.Aw
open Go Go.Vm
def modG (a1g:Str):Option (Nod×List Flt):=match decide (a1g=srcA)with
 | true=>some (b5E,[])
 | false=>none
noncomputable def b5W (n1:Nod):Option Str:=match E env (.call 10 [.agg (c0 n1.op n1.s n1.n n1.t.kind n1.t.name n1.t.n (.sl F3 n1.t.args) (.sl F3 n1.ts) (.sl H6 n1.l) n1.at_)]) []with
 | some (.ret (.str s) [])=>some s
 | _=>none
end Go.Proofs.YtjhfloacokgdiaaGreatDoor.Aw
namespace Go.Proofs.YtjhfloacokgdiaaGreatDoor.Aw
open Go Go.Vm
noncomputable def a7H:Option (Bool) :=
 (modG [102,117,110,99,32,102,40,120,58,32,73,110,116,41,32,45,62,32,73,110,116,32,123,32,114,101,116,117,114,110,32,120,32,43,32,50,32,42,32,51,59,32,125]).bind fun(nn1,ll2) =>
 cond (eqB (List.length ll2:Int) 0) (
 (b5W nn1).bind fun rr3 =>
 some ((eqS rr3 [102,117,110,99,32,102,32,40,32,120,32,58,32,73,110,116,32,41,32,45,62,32,73,110,116,32,123,32,114,101,116,117,114,110,32,40,32,120,32,43,32,40,32,50,32,42,32,51,32,41,32,41,32,59,32,125,10]))) (
 some (false))
def b4o:Bool->Out
 | R5=>.ret (.bool R5) []
end Go.Proofs.YtjhfloacokgdiaaGreatDoor.Aw
namespace Go.Proofs.YtjhfloacokgdiaaGreatDoor.Aw
open Go Go.Vm
theorem modG_ok {a1g:Str}{nn:Nod}{ll:List Flt}(h:modG a1g=some (nn,ll)):E env (.call 9 [.str a1g]) []=some (.ret (.tuple [.agg (c0 nn.op nn.s nn.n nn.t.kind nn.t.name nn.t.n (.sl F3 nn.t.args) (.sl F3 nn.ts) (.sl H6 nn.l) nn.at_),.sl b1I ll]) []):=by
 unfold modG at h
 split at h
 ·rename_i hs
  have hs:=of_decide_eq_true hs
  subst hs
  cases h
  exact modA_E
 ·cases h
theorem c47 {n1:Nod}{rr:Str}(h:b5W n1=some rr):E env (.call 10 [.agg (c0 n1.op n1.s n1.n n1.t.kind n1.t.name n1.t.n (.sl F3 n1.t.args) (.sl F3 n1.ts) (.sl H6 n1.l) n1.at_)]) []=some (.ret (.str rr) []):=by
 unfold b5W at h
 split at h
 ·rename_i he
  cases h
  exact he
 ·cases h
end Go.Proofs.YtjhfloacokgdiaaGreatDoor.Aw
namespace Go.Proofs.YtjhfloacokgdiaaGreatDoor.Aw
open Go Go.Vm
theorem b5r {r:Bool}(h:a7H=some r) :
  E env (.call 8 []) []=some (b4o r):=by
 unfold a7H at h
 refine F4 rfl Tryz.func8 rfl rfl ?_
 refine eSG (oB 1 rfl (eSG ?_))
 obtain⟨⟨nn1,ll2⟩,g1,h⟩:=a2t h
 obtain⟨nn1_0,nn1_1,nn1_2,⟨nn1_3,nn1_4,nn1_5,nn1_6⟩,nn1_7,nn1_8,nn1_9⟩:=nn1
 refine a1C rfl rfl rfl rfl rfl (modG_ok g1) rfl ?_
 refine oB 6 rfl (eSG (oA 4 rfl ?_))
 refine a0b rfl rfl rfl (fun g2=>?_) (fun g2=>?_)
 ·replace h:=cond_t h g2
  refine oA 1 rfl ?_
  obtain⟨rr3,g3,h⟩:=a2t h
  refine a1C rfl rfl rfl rfl rfl (c47 g3) rfl ?_
  refine oB 3 rfl ?_
  cases h
  exact I5 ⟨_,_,_,rfl,rfl,rfl⟩
 ·replace h:=cond_f h g2
  refine oB 5 rfl ?_
  cases h
  exact I5 ⟨_,_,_,rfl,rfl,rfl⟩
end Go.Proofs.YtjhfloacokgdiaaGreatDoor.Aw
namespace Go.Proofs.YtjhfloacokgdiaaGreatDoor.Aw
open Go Go.Vm
theorem a0C {a b:Int}(h:a=b):eqB a b=true:=by simp[eqB,h]
theorem a4Z (s:Str):eqS s s=true:=by simp[eqS]
theorem awake_ok:a7H=some true:=by
 unfold a7H
 have h1:modG [102,117,110,99,32,102,40,120,58,32,73,110,116,41,32,45,62,32,73,110,116,32,123,32,114,101,116,117,114,110,32,120,32,43,32,50,32,42,32,51,59,32,125]=some (b5E,[]):=by
  unfold modG
  rw[show decide (_=srcA)=true from by decide]
 rw[h1,Option.bind_some]
 simp only[List.length_nil]
 rw[show eqB ((0:Nat):Int) 0=true from a0C rfl,cond_true]
 have h2:b5W b5E=some (printed [b39]):=by
  unfold b5W
  have h3:=printA_E
  unfold a7z at h3
  rw[h3]
 rw[h2,Option.bind_some]
 have h4:eqS (printed [b39]) [102,117,110,99,32,102,32,40,32,120,32,58,32,73,110,116,32,41,32,45,62,32,73,110,116,32,123,32,114,101,116,117,114,110,32,40,32,120,32,43,32,40,32,50,32,42,32,51,32,41,32,41,32,59,32,125,10]=true:=by
  have:printed [b39]=[102,117,110,99,32,102,32,40,32,120,32,58,32,73,110,116,32,41,32,45,62,32,73,110,116,32,123,32,114,101,116,117,114,110,32,40,32,120,32,43,32,40,32,50,32,42,32,51,32,41,32,41,32,59,32,125,10]:=by decide
  rw[this,a4Z]
 rw[h4]
theorem awake_E:E env (.call 8 []) []=some (.ret (.bool true) []):=b5r awake_ok
def c1e:List V->Option V:=fun args=>match args with
 | []=>some (.bool true)
 | _=>none
theorem c1f:a6W Tryz.prog 8 (a9D c1e):=by
 refine b83 b47 (fun args v h=>?_) ⟨_,_,Tryz.func8,by kernel_rfl,rfl⟩
 unfold c1e at h
 split at h
 ·cases h
  exact⟨rfl,rfl,awake_E⟩
 ·cases h
end Go.Proofs.YtjhfloacokgdiaaGreatDoor.Aw
namespace Go.Proofs.YtjhfloacokgdiaaGreatDoor
open Go Go.Vm
noncomputable def b0s:Nat->Option Hand
 | 40=>some (.plain b33)
 | 16=>some (.plain (a9D Sc.tokF))
 | 8=>some (.plain (a9D Aw.c1e))
 | 30=>some (.plain (a9D Tr.trimF))
 | 71=>some (.plain (a9D Rp.escF))
 | 113=>some (.plain (a9D b9O))
 | 162=>some (.plain b9h)
 | 20=>some (.via gPre b6Z)
 | _=>none
noncomputable def env:Env:={P:=Tryz.prog,T:=T,keep:=keep,byref:=fun _ _=>none,meth:=fun _ _=>none,tags:=fun g=>has g tagL,argTags:=fun g=>has g argL,quiet:=fun g=>has g a9t,loose:=fun _=>false,ok:=fun g=>has g okL,cut:=cut,b1D:=b1D,a6p:=a6p,sep:=sep,mask:=mask,look:=fun g=>has g b91,frz:=fun g=>has g b4m,slk:=slk,full:=true,intr:=b0s}
theorem codes:b0i env okL=true:=by kernel_rfl
theorem b5B:a6X env:=by
 intro _ _ _ h
 cases h
theorem b47:a6V env:=⟨b5B,a7R tys,mixed,a6R (fun _ h=>h) codes,(fun g h hg=>by simp only[env,b0s]at hg;first |(cases hg;done) |(split at hg<;>first |(cases hg;done) |(cases hg;exact b4E) |(cases hg;exact Sc.tok_intr) |(cases hg;exact Aw.c1f) |(cases hg;exact Tr.c5F) |(cases hg;exact Rp.esc_intr) |(cases hg;exact b63) |(cases hg;exact b6J))),(fun g pre post hg=>by simp only[env,b0s]at hg;first |(cases hg;done) |(split at hg<;>first |(cases hg;done) |(cases hg;exact a7C)))⟩
end Go.Proofs.YtjhfloacokgdiaaGreatDoor
namespace Go.Proofs.YtjhfloacokgdiaaGreatDoor
open Go Go.Vm
theorem b7A:∀l:List Str,strsOf (clS l)=some l
 | []=>rfl
 | s::r=>by
  show(match strsOf (clS r)with|some l=>some (s::l)|none=>none)=_
  rw[b7A r]
theorem joinI_at {a:List Str}{b:Str}(h:(leN a.length 140737488355328&&leN (Lib.join a b).length 140737488355328)=true):b33 [.slice .sealed (List.length a) (clS a),.str b] []=some (.ret (.str (Lib.join a b)) []):=by
 rw[Bool.and_eq_true]at h
 have e:eqN a.length (List.length a)=true:=a2W rfl
 unfold b33
 simp only[b7A,e,h.1,h.2,gd,Bool.and_self]
end Go.Proofs.YtjhfloacokgdiaaGreatDoor
namespace Go.Proofs.YtjhfloacokgdiaaGreatDoor
open Go Go.Vm
theorem c4o {bb:Bool}(h:b3n=some bb):E env (.call 8 []) []=some (.ret (.bool bb) []):=by
 cases h
 exact a7x rfl rfl
theorem c2D {a1g:Str}{l2:List Tok}{c3 a4:Int}(h:a7P a1g=some (l2,c3,a4)):E env (.call 16 [.str a1g]) []=some (.ret (.tuple [.sl F6 l2,.agg [.i c3,.i a4]]) []):=by
 unfold a7P at h
 cases h
 exact tok_call rfl (Sc.b3g _).1
theorem escG_ok {s1 rr:Str}(h:escG s1=some rr):E env (.call 71 [.str s1]) []=some (.ret (.str rr) []):=by
 unfold escG at h
 split at h
 ·rename_i hs
  cases h
  exact a7x rfl (by simp only[a9D,Rp.escF,hs])
 ·cases h
theorem itoaG_ok {i1:Int}{rr:Str}(h:b31 i1=some rr):E env (.call 113 [.i i1]) []=some (.ret (.str rr) []):=by
 unfold b31 at h
 split at h
 ·rename_i hs
  cases h
  exact a7x rfl (by simp only[a9D,b9O,hs])
 ·cases h
theorem joinG_ok {elems1:List Str}{sep2 rr:Str}(h:b66 elems1 sep2=some rr):E env (.call 40 [.sl clS elems1,.str sep2]) []=some (.ret (.str rr) []):=by
 unfold b66 at h
 split at h
 ·rename_i hs
  cases h
  exact a7x rfl (joinI_at hs)
 ·cases h
theorem trimG_ok {s1 rr:Str}(h:c0L s1=some rr):E env (.call 30 [.str s1]) []=some (.ret (.str rr) []):=by
 unfold c0L at h
 exact a7x rfl (by simp only[a9D,Tr.trimF,h])
theorem atoi_ok {s1:Str}{n2:Int}(h:atoi s1=some n2):E env (.call 162 [.str s1]) []=some (.ret (.tuple [.i n2,.nilIface]) []):=by
 unfold atoi at h
 split at h
 ·rename_i hb
  cases h
  exact a7x rfl (by simp only[b9h,hb])
 ·cases h
def b6u:Bool->Out
 | bb=>.ret (.bool bb) []
instance:OkF env (b3n) 8 [] [] (b6u):=⟨fun{r} h=>by
 obtain bb:=r
 exact c4o h⟩
def b58 (a1g:Str):List Tok×Int×Int->Out
 |(l2,c3,a4)=>.ret (.tuple [.sl F6 l2,.agg [.i c3,.i a4]]) []
instance {a1g:Str}:OkF env (a7P a1g) 16 [.str a1g] [] (b58 a1g):=⟨fun{r} h=>by
 obtain⟨l2,c3,a4⟩:=r
 exact c2D h⟩
def b9E (s1:Str):Str->Out
 | rr=>.ret (.str rr) []
instance {s1:Str}:OkF env (escG s1) 71 [.str s1] [] (b9E s1):=⟨fun{r} h=>by
 obtain rr:=r
 exact escG_ok h⟩
def b8c (i1:Int):Str->Out
 | rr=>.ret (.str rr) []
instance {i1:Int}:OkF env (b31 i1) 113 [.i i1] [] (b8c i1):=⟨fun{r} h=>by
 obtain rr:=r
 exact itoaG_ok h⟩
def b8d (elems1:List Str)(sep2:Str):Str->Out
 | rr=>.ret (.str rr) []
instance {elems1:List Str}{sep2:Str}:OkF env (b66 elems1 sep2) 40 [.sl clS elems1,.str sep2] [] (b8d elems1 sep2):=⟨fun{r} h=>by
 obtain rr:=r
 exact joinG_ok h⟩
def b8V (s1:Str):Str->Out
 | rr=>.ret (.str rr) []
instance {s1:Str}:OkF env (c0L s1) 30 [.str s1] [] (b8V s1):=⟨fun{r} h=>by
 obtain rr:=r
 exact trimG_ok h⟩
def b9i (s1:Str):Int->Out
 | n2=>.ret (.tuple [.i n2,.nilIface]) []
instance {s1:Str}:OkF env (atoi s1) 162 [.str s1] [] (b9i s1):=⟨fun{r} h=>by
 obtain n2:=r
 exact atoi_ok h⟩
end Go.Proofs.YtjhfloacokgdiaaGreatDoor
