/- Texts of ParseRecovers, joined. -/
import Derived.Test.YtjhfloacokgdiaaGreatDoorParseRecoversJ11
import Derived.KernelRfl
import Derived.Test.YtjhfloacokgdiaaGreatDoorProg
set_option maxRecDepth 100000
set_option maxHeartbeats 20000000
set_option linter.all false
namespace Go.Proofs.YtjhfloacokgdiaaGreatDoor.Pr
open Go Go.Vm
def T:List (Nat×Ty):=[(3,⟨.int .i64,1,8,[.i 0]⟩),(9,⟨.string,1,16,[.str []]⟩),(24,⟨.slice 26,1,24,[.slice .nil 0 []]⟩),(26,⟨.struct [(3,0),(9,1),(3,2),(24,3)],4,56,[.i 0,.str [],.i 0,.slice .nil 0 []]⟩),(27,⟨.slice 29,1,24,[.slice .nil 0 []]⟩),(29,⟨.struct [(3,0),(9,1),(3,2),(26,3),(24,7),(27,8),(3,9)],10,144,[.i 0,.str [],.i 0,.i 0,.str [],.i 0,.slice .nil 0 [],.slice .nil 0 [],.slice .nil 0 [],.i 0]⟩),(61,⟨.ptr 64,1,8,[.nilptr]⟩),(62,⟨.slice 9,1,24,[.slice .nil 0 []]⟩),(64,⟨.struct [(62,0)],1,24,[.slice .nil 0 []]⟩),(65,⟨.func,1,8,[.nilFunc]⟩),(94,⟨.map 3 9,1,8,[.opq]⟩),(96,⟨.func,1,8,[.nilFunc]⟩),(113,⟨.slice 3,1,24,[.slice .nil 0 []]⟩)]
def keep:Nat->Nat->List Nat|25,13=>[0,48,49,50]|25,21=>[0,69,70,71]|25,37=>[0,118,119,120]|25,100008=>[0,3]|25,100010=>[0,3]|25,100018=>[0]|25,100029=>[0,69,70,71]|25,100030=>[0]|25,100045=>[0,118,119,120]|25,100046=>[0]|25,130006=>[0,3,11,12]|56,3=>[1,5,11,12,13]|56,6=>[1,5,7,11,12,13,17,18,19]|56,100011=>[1,5,7,11,12,13,17,18,19]|56,100012=>[1,5,11,12,13]|56,100013=>[5]|57,100007=>[0,3]|57,100013=>[0,3]|57,100018=>[0]|58,2=>[0,7,8,9]|58,100008=>[0,5,7,8,9]|59,5=>[0,3,23,24,25]|59,15=>[0,52,53,54]|59,100012=>[0,3]|69,100005=>[0,4]|72,2=>[0,3,7,8,9]|72,100012=>[0,3,7,8,9]|74,6=>[0,25,26,27]|74,9=>[0,25,26,27,32,33,34]|74,100014=>[0,25,26,27]|74,100015=>[0]|75,1=>[0,2,8,9,10]|75,100006=>[0,2,7,8,9,10]|101,1=>[0,2,8,9,10]|101,100006=>[0,2,7,8,9,10]|102,3=>[0,10,11,12]|102,100008=>[0]|116,40=>[0,140,141,142]|116,100007=>[0,3]|116,100011=>[0,3]|116,100014=>[0]|116,100047=>[0]|116,100052=>[0]|117,130008=>[0,3,9]|133,100006=>[1,2]|_,_=>[]
def cut:Nat->Nat->Bool|25,8=>true|25,10=>true|25,18=>true|25,29=>true|25,30=>true|25,45=>true|25,46=>true|25,30006=>true|56,11=>true|56,12=>true|56,13=>true|57,7=>true|57,13=>true|57,18=>true|58,8=>true|59,12=>true|69,5=>true|72,12=>true|74,14=>true|74,15=>true|75,6=>true|101,6=>true|102,8=>true|116,7=>true|116,11=>true|116,14=>true|116,47=>true|116,52=>true|117,30008=>true|133,6=>true|_,_=>false
def b4H:List Nat:=[]
def b3E:Nat->Nat->Bool|f,_=>has f b4H
def a7K:Nat->Nat->Bool|f,_=>has f b4H
def slk:Nat->Nat->List (Nat×Nat)|_,_=>[]
def sep:Nat->Nat->Option (List Nat×List Nat)|_,_=>none
def mask:Nat->Nat->List Nat|_,_=>[]
def okL:List Nat:=[25,27,37,54,55,56,57,58,59,60,61,69,70,72,73,74,75,76,100,101,102,103,104,105,106,116,117,118,119,133,144]
def c2r:List Nat:=[19]
def b1e:List Nat:=[40,56,71,73,113,119]
def b55:List Nat:=[]
def tagL:List Nat:=[]++b4H
def argL:List Nat:=[]++b4H
theorem tys:tysB Tryz.prog T=true:=by kernel_rfl
theorem mixed:Tryz.prog.follows .mixedOrders=true:=by kernel_rfl
def b7f:Nat->Option Hand|40=>some (.plain b5N)|113=>some (.plain (b0F c2d))|20=>some (.via gPre b87)|_=>none
noncomputable def b6W:Env:={P:=Tryz.prog,T:=T,keep:=keep,byref:=fun _ _=>none,meth:=fun _ _=>none,tags:=fun g=>has g tagL,argTags:=fun g=>has g argL,quiet:=fun g=>has g b1e,loose:=fun _=>false,ok:=fun g=>has g okL,cut:=cut,b3E:=b3E,a7K:=a7K,sep:=sep,mask:=mask,look:=fun g=>has g c2r,frz:=fun g=>has g b55,slk:=slk,full:=true,intr:=b7f}
theorem c3S:b2i b6W okL=true:=by kernel_rfl
theorem c0C:a8z b6W:=by
 intro _ _ _ h;cases h
theorem c3W:a7q b6W:=⟨c0C,a9C tys,mixed,a8u (fun _ h=>h) c3S,(fun g h hg=>by simp only[b6W,b7f]at hg;first |(cases hg;done) |(split at hg<;>first |(cases hg;done) |(cases hg;exact b6p) |(cases hg;exact b9b))),(fun g pre post hg=>by simp only[b6W,b7f]at hg;first |(cases hg;done) |(split at hg<;>first |(cases hg;done) |(cases hg;exact a9o)))⟩
noncomputable def b2s:Nat->Option Hand|40=>some (.plain b5N)|16=>some (.plain (b0F Sc.tokF))|30=>some (.plain (b0F Tr.trimF))|71=>some (.plain (b0F Rp.escF))|113=>some (.plain (b0F c2d))|20=>some (.via gPre b87)|_=>none
noncomputable def env:Env:={P:=Tryz.prog,T:=T,keep:=keep,byref:=fun _ _=>none,meth:=fun _ _=>none,tags:=fun g=>has g tagL,argTags:=fun g=>has g argL,quiet:=fun g=>has g b1e,loose:=fun _=>false,ok:=fun g=>has g okL,cut:=cut,b3E:=b3E,a7K:=a7K,sep:=sep,mask:=mask,look:=fun g=>has g c2r,frz:=fun g=>has g b55,slk:=slk,full:=true,intr:=b2s}
theorem codes:b2i env okL=true:=by kernel_rfl
theorem b7t:a8z env:=by
 intro _ _ _ h;cases h
theorem b6X:a7q env:=⟨b7t,a9C tys,mixed,a8u (fun _ h=>h) codes,(fun g h hg=>by simp only[env,b2s]at hg;first |(cases hg;done) |(split at hg<;>first |(cases hg;done) |(cases hg;exact b6p) |(cases hg;exact Sc.c3e) |(cases hg;exact Tr.b9R) |(cases hg;exact Rp.c1V) |(cases hg;exact b9b))),(fun g pre post hg=>by simp only[env,b2s]at hg;first |(cases hg;done) |(split at hg<;>first |(cases hg;done) |(cases hg;exact a9o)))⟩
end Go.Proofs.YtjhfloacokgdiaaGreatDoor.Pr
namespace Go.Proofs.YtjhfloacokgdiaaGreatDoor
open Go Go.Vm
theorem b9M:∀l:List Str,strsOf (clS l)=some l
 | []=>rfl
 | s::r=>by
  show(match strsOf (clS r)with|some l=>some (s::l)|none=>none)=_;rw[b9M r]
theorem joinI_at {a:List Str}{b:Str}(h:(leN a.length 140737488355328&&leN (Lib.join a b).length 140737488355328)=true):b5N [.slice .sealed (List.length a) (clS a),.str b] []=some (.ret (.str (Lib.join a b)) []):=by
 rw[Bool.and_eq_true]at h;have e:eqN a.length (List.length a)=true:=a3O rfl;unfold b5N;simp only[b9M,e,h.1,h.2,gd,Bool.and_self]
end Go.Proofs.YtjhfloacokgdiaaGreatDoor
namespace Go.Proofs.YtjhfloacokgdiaaGreatDoor.Pr
open Go Go.Vm
variable {rr:Str}
theorem joinG_ok {elems1:List Str}{sep2:Str}(h:c2e elems1 sep2=some rr):E env (.call 40 [.sl clS elems1,.str sep2]) []=some (.ret (.str rr) []):=by
 unfold c2e at h;split at h
 ·rename_i hs;cases h;exact a8a rfl (joinI_at hs)
 ·cases h
theorem escG_ok {s1:Str}(h:escG s1=some rr):E env (.call 71 [.str s1]) []=some (.ret (.str rr) []):=by
 unfold escG at h;split at h
 ·rename_i hs;cases h;exact a8a rfl (by simp only[b0F,Rp.escF,hs])
 ·cases h
theorem itoaG_ok {i1:Int}(h:b5M i1=some rr):E env (.call 113 [.i i1]) []=some (.ret (.str rr) []):=by
 unfold b5M at h;split at h
 ·rename_i hs;cases h;exact a8a rfl (by simp only[b0F,c2d,hs])
 ·cases h
def c0q (elems1:List Str)(sep2:Str):Str->Out|rr=>.ret (.str rr) []
instance {elems1:List Str}{sep2:Str}:OkF env (c2e elems1 sep2) 40 [.sl clS elems1,.str sep2] [] (c0q elems1 sep2):=⟨fun{r} h=>by
 obtain rr:=r;exact joinG_ok h⟩
def c1U (s1:Str):Str->Out|rr=>.ret (.str rr) []
instance {s1:Str}:OkF env (escG s1) 71 [.str s1] [] (c1U s1):=⟨fun{r} h=>by
 obtain rr:=r;exact escG_ok h⟩
def c0p (i1:Int):Str->Out|rr=>.ret (.str rr) []
instance {i1:Int}:OkF env (b5M i1) 113 [.i i1] [] (c0p i1):=⟨fun{r} h=>by
 obtain rr:=r;exact itoaG_ok h⟩
end Go.Proofs.YtjhfloacokgdiaaGreatDoor.Pr
