/- Texts of ParseParens, joined. -/
import Derived.Test.YtjhfloacokgdiaaGreatDoorParseParensJ11
import Derived.KernelRfl
set_option maxRecDepth 100000
set_option maxHeartbeats 20000000
set_option linter.unusedSimpArgs false
set_option linter.unusedVariables false
set_option linter.unusedSectionVars false
namespace Go.Proofs.YtjhfloacokgdiaaGreatDoor.Aw
open Go Go.Vm
def srcA:List UInt8:=[102,117,110,99,32,102,40,120,58,32,73,110,116,41,32,45,62,32,73,110,116,32,123,32,114,101,116,117,114,110,32,120,32,43,32,50,32,42,32,51,59,32,125]
def decA:List V:=[.i 7,.str [102],.i 1,.i 1,.str [],.i 0,.slice .sealed 0 [],.slice .sealed 0 [],.slice .sealed 2 [.i 10,.str [120],.i 0,.i 1,.str [],.i 0,.slice .sealed 0 [],.slice .sealed 0 [],.slice .sealed 0 [],.i 7,.i 20,.str [],.i 0,.i 0,.str [],.i 0,.slice .sealed 0 [],.slice .sealed 0 [],.slice .sealed 1 [.i 28,.str [],.i 0,.i 0,.str [],.i 0,.slice .sealed 0 [],.slice .sealed 0 [],.slice .sealed 1 [.i 64,.str [43],.i 0,.i 0,.str [],.i 0,.slice .sealed 0 [],.slice .sealed 0 [],.slice .sealed 2 [.i 54,.str [120],.i 0,.i 0,.str [],.i 0,.slice .sealed 0 [],.slice .sealed 0 [],.slice .sealed 0 [],.i 31,.i 64,.str [42],.i 0,.i 0,.str [],.i 0,.slice .sealed 0 [],.slice .sealed 0 [],.slice .sealed 2 [.i 50,.str [],.i 2,.i 0,.str [],.i 0,.slice .sealed 0 [],.slice .sealed 0 [],.slice .sealed 0 [],.i 35,.i 50,.str [],.i 3,.i 0,.str [],.i 0,.slice .sealed 0 [],.slice .sealed 0 [],.slice .sealed 0 [],.i 39],.i 35],.i 31],.i 24],.i 22],.i 0]
def cellsA:List V:=[.i 1,.str [],.i 0,.i 0,.str [],.i 0,.slice .sealed 0 [],.slice .sealed 0 [],.slice .sealed 1 [.i 7,.str [102],.i 1,.i 1,.str [],.i 0,.slice .sealed 0 [],.slice .sealed 0 [],.slice .sealed 2 [.i 10,.str [120],.i 0,.i 1,.str [],.i 0,.slice .sealed 0 [],.slice .sealed 0 [],.slice .sealed 0 [],.i 7,.i 20,.str [],.i 0,.i 0,.str [],.i 0,.slice .sealed 0 [],.slice .sealed 0 [],.slice .sealed 1 [.i 28,.str [],.i 0,.i 0,.str [],.i 0,.slice .sealed 0 [],.slice .sealed 0 [],.slice .sealed 1 [.i 64,.str [43],.i 0,.i 0,.str [],.i 0,.slice .sealed 0 [],.slice .sealed 0 [],.slice .sealed 2 [.i 54,.str [120],.i 0,.i 0,.str [],.i 0,.slice .sealed 0 [],.slice .sealed 0 [],.slice .sealed 0 [],.i 31,.i 64,.str [42],.i 0,.i 0,.str [],.i 0,.slice .sealed 0 [],.slice .sealed 0 [],.slice .sealed 2 [.i 50,.str [],.i 2,.i 0,.str [],.i 0,.slice .sealed 0 [],.slice .sealed 0 [],.slice .sealed 0 [],.i 35,.i 50,.str [],.i 3,.i 0,.str [],.i 0,.slice .sealed 0 [],.slice .sealed 0 [],.slice .sealed 0 [],.i 39],.i 35],.i 31],.i 24],.i 22],.i 0],.i 0]
def hpA:Hp:=[(0,.row [.slice (.tag 1) 22 [.str [102,117,110,99],.str [102],.str [40],.str [120],.str [58],.str [73,110,116],.str [41],.str [45,62],.str [73,110,116],.str [123],.str [114,101,116,117,114,110],.str [40],.str [120],.str [43],.str [40],.str [50],.str [42],.str [51],.str [41],.str [41],.str [59],.str [125]]]),(1,.tip 1 22)]
def hpB:Hp:=[(0,.row [.slice (.tag 1) 22 [.str [102,117,110,99],.str [102],.str [40],.str [120],.str [58],.str [73,110,116],.str [41],.str [45,62],.str [73,110,116],.str [123],.str [114,101,116,117,114,110],.str [40],.str [120],.str [43],.str [40],.str [50],.str [42],.str [51],.str [41],.str [41],.str [59],.str [125]]]),(1,.tip 1 22)]
def b39:List UInt8:=[102,117,110,99,32,102,32,40,32,120,32,58,32,73,110,116,32,41,32,45,62,32,73,110,116,32,123,32,114,101,116,117,114,110,32,40,32,120,32,43,32,40,32,50,32,42,32,51,32,41,32,41,32,59,32,125]
def b5E:Nod:=⟨1,[],0,⟨0,[],0,[]⟩,[],[⟨7,[102],1,⟨1,[],0,[]⟩,[],[⟨10,[120],0,⟨1,[],0,[]⟩,[],[],7⟩,⟨20,[],0,⟨0,[],0,[]⟩,[],[⟨28,[],0,⟨0,[],0,[]⟩,[],[⟨64,[43],0,⟨0,[],0,[]⟩,[],[⟨54,[120],0,⟨0,[],0,[]⟩,[],[],31⟩,⟨64,[42],0,⟨0,[],0,[]⟩,[],[⟨50,[],2,⟨0,[],0,[]⟩,[],[],35⟩,⟨50,[],3,⟨0,[],0,[]⟩,[],[],39⟩],35⟩],31⟩],24⟩],22⟩],0⟩],0⟩
theorem modA_run:run env 400 (.call 9 [.str srcA]) []=some (.ret (.tuple [.agg cellsA,.slice .sealed 0 []]) []):=by kernel_rfl
theorem c4A:run b0l 400 (.call 25 [.ptr 0 0,.agg decA]) hp1=some (.ret (.tuple []) hpA):=by kernel_rfl
theorem c5C:run b0l 400 (.call 27 [.ptr 0 0]) hpA=some (.ret (.str b39) hpB):=by kernel_rfl
theorem modA_enc:(some (.ret (.tuple [.agg cellsA,.slice .sealed 0 []]) []):Option Out)=some (.ret (.tuple [.agg (a7z b5E),.slice .sealed 0 (b1I [])]) []):=by kernel_rfl
theorem modA_E:E env (.call 9 [.str srcA]) []=some (.ret (.tuple [.agg (a7z b5E),.slice .sealed 0 (b1I [])]) []):=((a1L env).le 400 _ _ _ modA_run).trans modA_enc
theorem lineA_ok:b3y decA b39:=⟨hpA,hpB,(a1L b0l).le 400 _ _ _ c4A,(a1L b0l).le 400 _ _ _ c5C⟩
theorem linesA:Lines (decA++[]) [b39]:=.cons decA [] b39 [] (by kernel_rfl) lineA_ok .nil
theorem printA_E:E env (.call 10 [.agg (a7z b5E)]) []=some (.ret (.str (printed [b39])) []):=by
 refine b7J ?_
 have hi:env.intr 10=some (.plain b2n):=rfl
 show(match env.intr 10 with
  | some (.plain h)=>h [.agg (a7z b5E)] []
  | some (.via pre post)=>match pre [.agg (a7z b5E)] []with
   | some (g',l,H')=>match E env (.call g' l) H' with
    | some o=>post [.agg (a7z b5E)] [] o
    | none=>none
   | none=>none
  | none=>a3H env (E env) 10 [.agg (a7z b5E)] [])=_
 rw[hi]
 show b2n _ _=_
 have hc:(a7z b5E)=[.i 1,.str [],.i 0,.i 0,.str [],.i 0,.slice .sealed 0 [],.slice .sealed 0 [],.slice .sealed 1 (decA++[]),.i 0]:=by kernel_rfl
 rw[hc]
 exact c48 linesA rfl (by decide) (by decide)
end Go.Proofs.YtjhfloacokgdiaaGreatDoor.Aw
