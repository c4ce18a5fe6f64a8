/- What the functions under ParseModules compute, step by step, as functions in Lean: texts that were built one by one, joined. -/
import Derived.Test.YtcbjnilpecpbmaaGreatDoorParseModulesJ14
set_option maxRecDepth 100000
set_option maxHeartbeats 20000000
set_option linter.unusedSimpArgs false
set_option linter.unusedVariables false
set_option linter.unusedSectionVars false
namespace Go.Proofs.YtcbjnilpecpbmaaGreatDoor
open Go Go.Vm
noncomputable def b7U:Nat->Option Hand
 | 66=>some (.plain b9V)
 | 31=>some (.plain (valI Sc.tokF))
 | 18=>some (.plain (valI Sc.tokF))
 | 5=>some (.plain (valI Aw.c4J))
 | 185=>some (.plain c2q)
 | 13=>some (.via gPre b9Q)
 | _=>none
noncomputable def env:Env:={P:=Tryz.prog,T:=T,keep:=keep,byref:=fun _ _=>none,meth:=fun _ _=>none,tags:=fun g=>has g tagL,argTags:=fun g=>has g argL,quiet:=fun g=>has g b4R,loose:=fun _=>false,ok:=fun g=>has g okL,cut:=cut,b4g:=b4g,a8j:=a8j,sep:=sep,mask:=mask,look:=fun g=>has g c25,frz:=fun g=>has g b6Y,slk:=slk,full:=true,intr:=b7U}
theorem codes:b4F env okL=true:=by kernel_rfl
theorem b8b:a9Z env:=by
 intro _ _ _ h
 cases h
theorem b9F:a9A env:=⟨b8b,b3Y tys,mixed,b0u (fun _ h=>h) codes,(fun g h hg=>by simp only[env,b7U]at hg;first |(cases hg;done) |(split at hg<;>first |(cases hg;done) |(cases hg;exact b7i) |(cases hg;exact Sc.tok_intr) |(cases hg;exact Sc.c8f) |(cases hg;exact Aw.c4K) |(cases hg;exact b9v))),(fun g pre post hg=>by simp only[env,b7U]at hg;first |(cases hg;done) |(split at hg<;>first |(cases hg;done) |(cases hg;exact a9F)))⟩
end Go.Proofs.YtcbjnilpecpbmaaGreatDoor
namespace Go.Proofs.YtcbjnilpecpbmaaGreatDoor
open Go Go.Vm
theorem c7h {bb:Bool}(h:c0G=some bb):E env (.call 5 []) []=some (.ret (.bool bb) []):=by
 cases h
 exact c0A rfl rfl
theorem c5T {U8:Str}{l2:List Tok}{c3 a4:Int}(h:a7M U8=some (l2,c3,a4)):E env (.call 31 [.str U8]) []=some (.ret (.tuple [.sl p8 l2,.agg [.i c3,.i a4]]) []):=by
 unfold a7M at h
 cases h
 exact c4e rfl (Sc.b1U _).1
theorem b6R {U8:Str}{l2:List Tok}{c3 a4:Int}(h:a7M U8=some (l2,c3,a4)):E env (.call 18 [.str U8]) []=some (.ret (.tuple [.sl p8 l2,.agg [.i c3,.i a4]]) []):=by
 unfold a7M at h
 cases h
 exact c4e rfl (Sc.b1U _).1
theorem atoi_ok {s1:Str}{n2:Int}(h:atoi s1=some n2):E env (.call 185 [.str s1]) []=some (.ret (.tuple [.i n2,.nilIface]) []):=by
 unfold atoi at h
 split at h
 ·rename_i hb
  cases h
  exact c0A rfl (by simp only[c2q,hb])
 ·cases h
def b9c:Bool->Out
 | bb=>.ret (.bool bb) []
instance:OkF env (c0G) 5 [] [] (b9c):=⟨fun{r} h=>by
 obtain bb:=r
 exact c7h h⟩
def b8T (U8:Str):List Tok×Int×Int->Out
 |(l2,c3,a4)=>.ret (.tuple [.sl p8 l2,.agg [.i c3,.i a4]]) []
instance {U8:Str}:OkF env (a7M U8) 31 [.str U8] [] (b8T U8):=⟨fun{r} h=>by
 obtain⟨l2,c3,a4⟩:=r
 exact c5T h⟩
def b2b (U8:Str):List Tok×Int×Int->Out
 |(l2,c3,a4)=>.ret (.tuple [.sl p8 l2,.agg [.i c3,.i a4]]) []
instance {U8:Str}:OkF env (a7M U8) 18 [.str U8] [] (b2b U8):=⟨fun{r} h=>by
 obtain⟨l2,c3,a4⟩:=r
 exact b6R h⟩
def c2r (s1:Str):Int->Out
 | n2=>.ret (.tuple [.i n2,.nilIface]) []
instance {s1:Str}:OkF env (atoi s1) 185 [.str s1] [] (c2r s1):=⟨fun{r} h=>by
 obtain n2:=r
 exact atoi_ok h⟩
end Go.Proofs.YtcbjnilpecpbmaaGreatDoor
