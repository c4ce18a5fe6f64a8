/- What the functions under ParseSpeaks compute, step by step, as functions in Lean: texts that were built one by one, joined. -/
import Derived.Test.YtmippldlhnajkaaGreatDoorParseSpeaksJ16
set_option maxRecDepth 100000
set_option maxHeartbeats 20000000
set_option linter.unusedSimpArgs false
set_option linter.unusedVariables false
set_option linter.unusedSectionVars false
namespace Go.Proofs.YtmippldlhnajkaaGreatDoor
open Go Go.Vm
noncomputable def a99:Nat->Option Hand
 | 33=>some (.plain b3L)
 | 103=>some (.plain (a7R Sc.tokF))
 | 38=>some (.plain (a7R Sc.tokF))
 | 7=>some (.plain (a7R Aw.c0K))
 | 78=>some (.plain (a7R Rp.escF))
 | 86=>some (.plain (a7R Rp.escF))
 | 84=>some (.plain (a7R b9c))
 | 53=>some (.via gPre b6D)
 | _=>none
noncomputable def env:Env:={P:=Tryz.prog,T:=T,keep:=keep,byref:=fun _ _=>none,meth:=fun _ _=>none,tags:=fun g=>has g tagL,argTags:=fun g=>has g argL,quiet:=fun g=>has g a8S,loose:=fun _=>false,ok:=fun g=>has g okL,cut:=cut,b1l:=b1l,a5U:=a5U,sep:=sep,mask:=mask,look:=fun g=>has g b9t,frz:=fun g=>has g b34,slk:=slk,full:=true,intr:=a99}
theorem codes:a9V env okL=true:=by kernel_rfl
theorem b5o:a6B env:=by
 intro _ _ _ h
 cases h
theorem b3G:a6z env:=⟨b5o,a7z tys,mixed,a6t (fun _ h=>h) codes,(fun g h hg=>by simp only[env,a99]at hg;first |(cases hg;done) |(split at hg<;>first |(cases hg;done) |(cases hg;exact b4s) |(cases hg;exact Sc.tok_intr) |(cases hg;exact Sc.c4j) |(cases hg;exact Aw.c0L) |(cases hg;exact Rp.b4U) |(cases hg;exact Re.b4U) |(cases hg;exact b6I))),(fun g pre post hg=>by simp only[env,a99]at hg;first |(cases hg;done) |(split at hg<;>first |(cases hg;done) |(cases hg;exact a7j)))⟩
end Go.Proofs.YtmippldlhnajkaaGreatDoor
namespace Go.Proofs.YtmippldlhnajkaaGreatDoor
open Go Go.Vm
theorem b7c:∀l:List Str,strsOf (clS l)=some l
 | []=>rfl
 | s::r=>by
  show(match strsOf (clS r)with|some l=>some (s::l)|none=>none)=_
  rw[b7c r]
theorem joinI_at {a:List Str}{b:Str}(h:(leN a.length 140737488355328&&leN (Lib.join a b).length 140737488355328)=true):b3L [.slice .sealed (List.length a) (clS a),.str b] []=some (.ret (.str (Lib.join a b)) []):=by
 rw[Bool.and_eq_true]at h
 have e:eqN a.length (List.length a)=true:=a0k rfl
 unfold b3L
 simp only[b7c,e,h.1,h.2,gd,Bool.and_self]
end Go.Proofs.YtmippldlhnajkaaGreatDoor
namespace Go.Proofs.YtmippldlhnajkaaGreatDoor
open Go Go.Vm
theorem c3p {bb:Bool}(h:b4P=some bb):E env (.call 7 []) []=some (.ret (.bool bb) []):=by
 cases h
 exact a8C rfl rfl
theorem b97 {a1N:Str}{l2:List Tok}{c3 a4:Int}(h:a9b a1N=some (l2,c3,a4)):E env (.call 38 [.str a1N]) []=some (.ret (.tuple [.sl F7 l2,.agg [.i c3,.i a4]]) []):=by
 unfold a9b at h
 cases h
 exact tok_call rfl (Sc.b03 _).1
theorem escG_ok {s1 rr:Str}(h:b33 s1=some rr):E env (.call 78 [.str s1]) []=some (.ret (.str rr) []):=by
 unfold b33 at h
 split at h
 ·rename_i hs
  cases h
  exact a8C rfl (by simp only[a7R,Rp.escF,hs])
 ·cases h
theorem itoaG_ok {i1:Int}{rr:Str}(h:b3J i1=some rr):E env (.call 84 [.i i1]) []=some (.ret (.str rr) []):=by
 unfold b3J at h
 split at h
 ·rename_i hs
  cases h
  exact a8C rfl (by simp only[a7R,b9c,hs])
 ·cases h
theorem joinG_ok {elems1:List Str}{sep2 rr:Str}(h:b3K elems1 sep2=some rr):E env (.call 33 [.sl clS elems1,.str sep2]) []=some (.ret (.str rr) []):=by
 unfold b3K at h
 split at h
 ·rename_i hs
  cases h
  exact a8C rfl (joinI_at hs)
 ·cases h
theorem escR_ok {s1 rr:Str}(h:escR s1=some rr):E env (.call 86 [.str s1]) []=some (.ret (.str rr) []):=by
 unfold escR at h
 split at h
 ·rename_i hs
  cases h
  exact a8C rfl (by simp only[a7R,Rp.escF,hs])
 ·cases h
def b59:Bool->Out
 | bb=>.ret (.bool bb) []
instance:OkF env (b4P) 7 [] [] (b59):=⟨fun{r} h=>by
 obtain bb:=r
 exact c3p h⟩
def b4h (a1N:Str):List Tok×Int×Int->Out
 |(l2,c3,a4)=>.ret (.tuple [.sl F7 l2,.agg [.i c3,.i a4]]) []
instance {a1N:Str}:OkF env (a9b a1N) 38 [.str a1N] [] (b4h a1N):=⟨fun{r} h=>by
 obtain⟨l2,c3,a4⟩:=r
 exact b97 h⟩
def b83 (s1:Str):Str->Out
 | rr=>.ret (.str rr) []
instance {s1:Str}:OkF env (b33 s1) 78 [.str s1] [] (b83 s1):=⟨fun{r} h=>by
 obtain rr:=r
 exact escG_ok h⟩
def b7O (i1:Int):Str->Out
 | rr=>.ret (.str rr) []
instance {i1:Int}:OkF env (b3J i1) 84 [.i i1] [] (b7O i1):=⟨fun{r} h=>by
 obtain rr:=r
 exact itoaG_ok h⟩
def b7P (elems1:List Str)(sep2:Str):Str->Out
 | rr=>.ret (.str rr) []
instance {elems1:List Str}{sep2:Str}:OkF env (b3K elems1 sep2) 33 [.sl clS elems1,.str sep2] [] (b7P elems1 sep2):=⟨fun{r} h=>by
 obtain rr:=r
 exact joinG_ok h⟩
def b84 (s1:Str):Str->Out
 | rr=>.ret (.str rr) []
instance {s1:Str}:OkF env (escR s1) 86 [.str s1] [] (b84 s1):=⟨fun{r} h=>by
 obtain rr:=r
 exact escR_ok h⟩
end Go.Proofs.YtmippldlhnajkaaGreatDoor
