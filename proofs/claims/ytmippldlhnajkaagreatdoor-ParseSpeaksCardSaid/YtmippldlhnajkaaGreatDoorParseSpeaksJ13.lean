/- What the functions under ParseSpeaks compute, step by step, as functions in Lean: texts that were built one by one, joined. -/
import Derived.Test.YtmippldlhnajkaaGreatDoorParseSpeaksJ12
import Derived.KernelRfl
import Derived.Test.YtmippldlhnajkaaGreatDoorProg
import Derived.Tactics
import Derived.Tactics2
import Derived.BigCall
import Derived.BigGuard
set_option maxRecDepth 100000
set_option maxHeartbeats 20000000
set_option linter.unusedSimpArgs false
set_option linter.unusedVariables false
set_option linter.unusedSectionVars false
namespace Go.Proofs.YtmippldlhnajkaaGreatDoor
open Go Go.Vm
def T:List (Nat×Ty):=[
 (3,⟨.int .i64,1,8,[.i 0]⟩),
 (4,⟨.bool,1,1,[.bool false]⟩),
 (5,⟨.int .u8,1,1,[.int .u8 0]⟩),
 (9,⟨.string,1,16,[.str []]⟩),
 (22,⟨.slice 24,1,24,[.slice .nil 0 []]⟩),
 (24,⟨.struct [(3,0),(9,1),(3,2),(22,3)],4,56,[.i 0,.str [],.i 0,.slice .nil 0 []]⟩),
 (25,⟨.slice 27,1,24,[.slice .nil 0 []]⟩),
 (27,⟨.struct [(3,0),(9,1),(3,2),(24,3),(22,7),(25,8),(3,9)],10,144,[.i 0,.str [],.i 0,.i 0,.str [],.i 0,.slice .nil 0 [],.slice .nil 0 [],.slice .nil 0 [],.i 0]⟩),
 (34,⟨.int .i64,1,8,[.i 0]⟩),
 (36,⟨.struct [(34,0),(3,1)],2,16,[.i 0,.i 0]⟩),
 (57,⟨.ptr 60,1,8,[.nilptr]⟩),
 (58,⟨.slice 9,1,24,[.slice .nil 0 []]⟩),
 (60,⟨.struct [(58,0)],1,24,[.slice .nil 0 []]⟩),
 (61,⟨.func,1,8,[.nilFunc]⟩),
 (73,⟨.slice 88,1,24,[.slice .nil 0 []]⟩),
 (76,⟨.ptr 78,1,8,[.nilptr]⟩),
 (78,⟨.struct [(73,0),(3,1),(3,2),(3,3)],4,48,[.slice .nil 0 [],.i 0,.i 0,.i 0]⟩),
 (85,⟨.func,1,8,[.nilFunc]⟩),
 (88,⟨.struct [(3,0),(9,1),(3,2),(3,3)],4,40,[.i 0,.str [],.i 0,.i 0]⟩),
 (102,⟨.slice 3,1,24,[.slice .nil 0 []]⟩),
 (140,⟨.slice 58,1,24,[.slice .nil 0 []]⟩)]
def keep:Nat->Nat->List Nat
 | 4,130003=>[0,1,14]
 | 4,130006=>[1,30]
 | 4,130009=>[45]
 | 13,130008=>[2,3,4,6,7,8,39]
 | 13,130010=>[2,3,6,7,56]
 | 16,130008=>[2,3,6,7,39]
 | 21,3=>[1,4,5,6]
 | 21,100009=>[4,5]
 | 42,14=>[0,3,5]
 | 42,38=>[0,3,8]
 | 42,100016=>[0,3,5]
 | 42,100022=>[0,3,5,6,7]
 | 42,100024=>[0,3,5,6,7]
 | 42,100025=>[0]
 | 42,100035=>[0]
 | 42,100043=>[0,3,8]
 | 42,100044=>[0]
 | 42,100045=>[0,3]
 | 43,18=>[0,2,12,13]
 | 43,100012=>[0,2,6]
 | 43,100023=>[2,12,13]
 | 43,130010=>[0,2,6,7,43]
 | 43,190074=>[0,2,12,13,74]
 | 44,3=>[1,2,5,6]
 | 44,100007=>[5]
 | 44,190016=>[1,2,5,6,16]
 | 46,15=>[0,3,5]
 | 46,22=>[0,3,6]
 | 46,38=>[0,3,7]
 | 46,100019=>[0,3]
 | 46,100027=>[0,3,6]
 | 46,100028=>[0,3]
 | 46,100031=>[0]
 | 46,100036=>[0,3]
 | 46,100043=>[0,3,7]
 | 46,100044=>[0]
 | 46,100045=>[0]
 | 60,3=>[1,5,11,12,13]
 | 60,6=>[1,5,7,11,12,13,17,18,19]
 | 60,100011=>[1,5,7,11,12,13,17,18,19]
 | 60,100012=>[1,5,11,12,13]
 | 60,100013=>[5]
 | 75,6=>[0,1,4,6,7,8,9]
 | 75,10=>[0,1,4,6,7,9,10,11]
 | 75,100008=>[0,1,4,6,7,8,9]
 | 75,100012=>[0,1,4,6,7,9,10,11]
 | 75,100015=>[0,1,4,6,7,9,10]
 | 75,100021=>[4,7,8]
 | 75,190038=>[0,1,4,6,7,8,9,38]
 | 76,100005=>[0,4]
 | 79,2=>[0,3,7,8,9]
 | 79,100012=>[0,3,7,8,9]
 | 81,6=>[0,25,26,27]
 | 81,9=>[0,25,26,27,32,33,34]
 | 81,100014=>[0,25,26,27]
 | 81,100015=>[0]
 | 82,1=>[0,2,8,9,10]
 | 82,100006=>[0,2,7,8,9,10]
 | 87,3=>[0,1,5]
 | 87,100008=>[0,1,5]
 | 87,100009=>[0]
 | 88,31=>[0,3,5]
 | 88,35=>[0,3,5,6]
 | 88,100025=>[0]
 | 88,100033=>[0,3,5]
 | 88,100039=>[0]
 | 88,100040=>[0]
 | 92,3=>[0,4,5]
 | 92,100010=>[4]
 | 93,100011=>[2,4,6]
 | 93,100024=>[2,4,6,9]
 | 93,100026=>[2,4,6,9]
 | 93,130009=>[2,4,7,31]
 | 93,130013=>[2,4,6,9,34]
 | 93,130015=>[2,4,6,9,42]
 | 93,130017=>[2,4,6,9,50]
 | 93,130019=>[2,4,6,9,58]
 | 93,130021=>[2,4,6,9,66]
 | 93,130023=>[2,4,6,9,74]
 | 95,1=>[0,2,8,9,10]
 | 95,100006=>[0,2,7,8,9,10]
 | 118,3=>[0,10,11,12]
 | 118,100008=>[0]
 | 124,3=>[1,2,5,6]
 | 124,6=>[1,2,5,6,7]
 | 124,100005=>[1,2,5,6]
 | 124,100011=>[5]
 | 125,4=>[0,5,6]
 | 125,100009=>[0,5,6]
 | 125,100014=>[0,5,6]
 | 125,100016=>[0]
 | 127,5=>[0,3,5]
 | 127,18=>[0,3,6]
 | 127,25=>[0,3,7]
 | 127,39=>[0,3,8]
 | 127,100009=>[0]
 | 127,100014=>[0,3]
 | 127,100018=>[0,3]
 | 127,100023=>[0]
 | 127,100030=>[0,3,7]
 | 127,100031=>[0]
 | 127,100037=>[0,3]
 | 127,100039=>[0,3]
 | 127,100043=>[0]
 | 127,100044=>[0,3]
 | 127,130035=>[0,3,104]
 | 144,40=>[0,140,141,142]
 | 144,100007=>[0,3]
 | 144,100011=>[0,3]
 | 144,100014=>[0]
 | 144,100047=>[0]
 | 144,100052=>[0]
 | 145,130008=>[0,3,9]
 | 157,4=>[0,1,6]
 | 157,100011=>[0,1,7]
 | 157,100021=>[0,1]
 | 157,130013=>[0,1,7,8,37]
 | 170,100006=>[1,2]
 | 172,8=>[0,3,5]
 | 172,18=>[0,3,6]
 | 172,31=>[0,3,7]
 | 172,39=>[0,3,8]
 | 172,100008=>[0,3]
 | 172,100010=>[0,3,5]
 | 172,100015=>[0,3,5]
 | 172,100020=>[0,3,6]
 | 172,100028=>[0]
 | 172,100036=>[0,3,7]
 | 172,100043=>[0]
 | 172,130005=>[0,3,10,11]
 | 174,2=>[0,2,4,5]
 | 174,100018=>[2,4,5]
 | 179,2=>[0,4]
 | 179,100008=>[4]
 | 195,18=>[0,3,6]
 | 195,100024=>[0,3,6]
 | 195,100025=>[0,3]
 | 195,100027=>[0]
 | 196,35=>[0,2,4,15]
 | 196,100043=>[0,2,4]
 | 196,100045=>[0,2]
 | 197,6=>[0,1,6]
 | 197,100015=>[0,1,8,9]
 | 197,100019=>[0,1]
 | 205,130004=>[0,2,4,24]
 | 205,130028=>[0,2,4,14,125]
 | 216,3=>[0,3,4]
 | 216,100007=>[3]
 | 217,2=>[0,2,4]
 | 217,130011=>[0,2,4,7,61]
 | 218,100015=>[0,2,4,5,6]
 | 219,3=>[0,2,4,5,6]
 | 219,100023=>[2,4]
 | 220,4=>[0,2,4,6,7]
 | 220,100009=>[2,6,7]
 | 220,190024=>[0,2,4,6,7,24]
 | 232,100006=>[0,2,4]
 | 232,100017=>[0,2,4,7]
 | 232,100024=>[0,2,4]
 | 232,130023=>[0,2,4,62]
 | 233,100017=>[2,4,5,7,8,9]
 | 234,6=>[0,4,6,9]
 | 234,100018=>[0,4,6,9]
 | 234,100026=>[0,4,6,9]
 | 234,130005=>[0,4,6,7,32]
 | 250,37=>[0,2,4,15,16]
 | 250,100044=>[0,2,4,15]
 | 251,1=>[1]
 | 251,100004=>[1]
 | 251,190011=>[1,11]
 | _,_=>[]
def cut:Nat->Nat->Bool
 | 4,30003=>true
 | 4,30006=>true
 | 4,30009=>true
 | 13,30008=>true
 | 13,30010=>true
 | 16,30008=>true
 | 21,9=>true
 | 42,16=>true
 | 42,22=>true
 | 42,24=>true
 | 42,25=>true
 | 42,35=>true
 | 42,43=>true
 | 42,44=>true
 | 42,45=>true
 | 43,12=>true
 | 43,23=>true
 | 43,30010=>true
 | 43,90074=>true
 | 44,7=>true
 | 44,90016=>true
 | 46,19=>true
 | 46,27=>true
 | 46,28=>true
 | 46,31=>true
 | 46,36=>true
 | 46,43=>true
 | 46,44=>true
 | 46,45=>true
 | 60,11=>true
 | 60,12=>true
 | 60,13=>true
 | 75,8=>true
 | 75,12=>true
 | 75,15=>true
 | 75,21=>true
 | 75,90038=>true
 | 76,5=>true
 | 79,12=>true
 | 81,14=>true
 | 81,15=>true
 | 82,6=>true
 | 87,8=>true
 | 87,9=>true
 | 88,25=>true
 | 88,33=>true
 | 88,39=>true
 | 88,40=>true
 | 92,10=>true
 | 93,11=>true
 | 93,24=>true
 | 93,26=>true
 | 93,30009=>true
 | 93,30013=>true
 | 93,30015=>true
 | 93,30017=>true
 | 93,30019=>true
 | 93,30021=>true
 | 93,30023=>true
 | 95,6=>true
 | 118,8=>true
 | 124,5=>true
 | 124,11=>true
 | 125,9=>true
 | 125,14=>true
 | 125,16=>true
 | 127,9=>true
 | 127,14=>true
 | 127,18=>true
 | 127,23=>true
 | 127,30=>true
 | 127,31=>true
 | 127,37=>true
 | 127,39=>true
 | 127,43=>true
 | 127,44=>true
 | 127,30035=>true
 | 144,7=>true
 | 144,11=>true
 | 144,14=>true
 | 144,47=>true
 | 144,52=>true
 | 145,30008=>true
 | 157,11=>true
 | 157,21=>true
 | 157,30013=>true
 | 170,6=>true
 | 172,8=>true
 | 172,10=>true
 | 172,15=>true
 | 172,20=>true
 | 172,28=>true
 | 172,36=>true
 | 172,43=>true
 | 172,30005=>true
 | 174,18=>true
 | 179,8=>true
 | 195,24=>true
 | 195,25=>true
 | 195,27=>true
 | 196,43=>true
 | 196,45=>true
 | 197,15=>true
 | 197,19=>true
 | 205,30004=>true
 | 205,30028=>true
 | 216,7=>true
 | 217,30011=>true
 | 218,15=>true
 | 219,23=>true
 | 220,9=>true
 | 220,90024=>true
 | 232,6=>true
 | 232,17=>true
 | 232,24=>true
 | 232,30023=>true
 | 233,17=>true
 | 234,18=>true
 | 234,26=>true
 | 234,30005=>true
 | 250,44=>true
 | 251,4=>true
 | 251,90011=>true
 | _,_=>false
def b2m:List Nat:=[]
def b1l:Nat->Nat->Bool
 | 42,0=>true
 | 46,0=>true
 | 87,0=>true
 | 88,0=>true
 | 92,0=>true
 | 125,0=>true
 | 126,0=>true
 | 127,0=>true
 | 149,0=>true
 | 157,0=>true
 | 172,0=>true
 | 195,0=>true
 | f,_=>has f b2m
def a5U:Nat->Nat->Bool
 | 42,0=>true
 | 46,0=>true
 | 87,0=>true
 | 88,0=>true
 | 125,0=>true
 | 126,0=>true
 | 127,0=>true
 | 149,0=>true
 | 157,1=>true
 | 172,0=>true
 | 195,0=>true
 | 197,1=>true
 | f,_=>has f b2m
def slk:Nat->Nat->List (Nat×Nat)
 | 43,18=>[(12,3)]
 | 75,6=>[(7,6),(7,7),(7,8)]
 | 174,2=>[(4,6),(4,7),(4,8)]
 | 197,100015=>[(8,6),(8,7),(8,8)]
 | 218,100015=>[(5,6)]
 | 219,3=>[(5,3)]
 | 232,100017=>[(4,6)]
 | _,_=>[]
def sep:Nat->Nat->Option (List Nat×List Nat)
 | 13,3=>some ([0,1,2,3],[5,1000002])
 | 13,7=>some ([0,1,2,3,4,5,6,7],[43,1000002])
 | 16,3=>some ([0,1,2,3],[5,1000002])
 | 42,26=>some ([0,1,2,3,5,6,4,7,8],[100])
 | 42,28=>some ([0,1,2,4,5,3,6,7],[109])
 | 88,13=>some ([0,1,3,4,5,6,2,7,8],[70,68])
 | 88,15=>some ([0,1,3,4,5,6,2,7,8],[80,78])
 | 88,17=>some ([0,1,3,4,5,6,2,7,8],[90,88])
 | 196,46=>some ([0,1,2,3,4,5,6,7],[20])
 | 205,20=>some ([0,1,2,3,4,5,6,7],[9])
 | 205,23=>some ([0,1,2,3,4,5,6,7,8,9,10],[12])
 | 217,2=>some ([0,1,2,3,4,5,6,7,8,9,10,11],[21,19,15])
 | 219,6=>some ([0,1,2,3,4,5,6,7],[5,1000033])
 | 219,16=>some ([0,1,2,3,4,5,6,7],[5,1000062,1000063])
 | 235,12=>some ([0,1,2,3,4,5,6,7,8,9,10,11,12],[7,4,44])
 | _,_=>none
def mask:Nat->Nat->List Nat
 | 13,3=>[0,0,1,7]
 | 13,7=>[0,0,2,6,14,30,1,127]
 | 16,3=>[0,0,1,7]
 | 42,26=>[0,0,2,6,15,0,32,127,255]
 | 42,28=>[0,0,2,7,0,16,63,127]
 | 88,13=>[0,0,3,0,8,24,56,127,255]
 | 88,15=>[0,0,3,0,8,24,56,127,255]
 | 88,17=>[0,0,3,0,8,24,56,127,255]
 | 196,46=>[0,0,2,6,14,30,31,127]
 | 205,20=>[0,0,2,6,14,30,31,127]
 | 205,23=>[0,0,2,7,0,16,48,112,240,255,1023]
 | 217,2=>[0,1,3,7,0,16,48,112,255,511,0,2047]
 | 219,6=>[0,0,0,4,13,29,63,127]
 | 219,16=>[0,0,0,4,13,29,63,127]
 | 235,12=>[0,1,0,0,12,31,0,64,192,448,960,1023,4095]
 | _,_=>[]
def okL:List Nat:=[4,12,13,14,15,16,17,18,21,30,39,40,41,42,43,44,45,46,58,60,75,76,77,79,80,81,82,83,85,87,88,89,90,91,92,93,94,95,118,119,120,124,125,126,127,139,140,141,144,145,146,147,149,150,151,152,154,157,170,172,174,177,179,195,196,197,205,216,217,218,219,220,232,233,234,235,250,251]
def b9t:List Nat:=[52]
def a8S:List Nat:=[4,7,12,13,14,15,16,17,18,21,33,38,44,60,78,80,84,85,86,124,139,147,150,216,251]
def b34:List Nat:=[]
def tagL:List Nat:=[42,46,87,88,92,125,126,127,149,157,172,195]++b2m
def argL:List Nat:=[42,46,87,88,125,126,127,149,157,172,195,197]++b2m
theorem tys:tysB Tryz.prog T=true:=by kernel_rfl
theorem mixed:Tryz.prog.follows .mixedOrders=true:=by kernel_rfl
def b46:Nat->Option Hand
 | 33=>some (.plain b3L)
 | 84=>some (.plain (a7R b9c))
 | 53=>some (.via gPre b6D)
 | _=>none
noncomputable def a9Y:Env:={P:=Tryz.prog,T:=T,keep:=keep,byref:=fun _ _=>none,meth:=fun _ _=>none,tags:=fun g=>has g tagL,argTags:=fun g=>has g argL,quiet:=fun g=>has g a8S,loose:=fun _=>false,ok:=fun g=>has g okL,cut:=cut,b1l:=b1l,a5U:=a5U,sep:=sep,mask:=mask,look:=fun g=>has g b9t,frz:=fun g=>has g b34,slk:=slk,full:=true,intr:=b46}
theorem c0Z:a9V a9Y okL=true:=by kernel_rfl
theorem b7X:a6B a9Y:=by
 intro _ _ _ h
 cases h
theorem envOk0:a6z a9Y:=⟨b7X,a7z tys,mixed,a6t (fun _ h=>h) c0Z,(fun g h hg=>by simp only[a9Y,b46]at hg;first |(cases hg;done) |(split at hg<;>first |(cases hg;done) |(cases hg;exact b4s) |(cases hg;exact b6I))),(fun g pre post hg=>by simp only[a9Y,b46]at hg;first |(cases hg;done) |(split at hg<;>first |(cases hg;done) |(cases hg;exact a7j)))⟩
end Go.Proofs.YtmippldlhnajkaaGreatDoor
namespace Go.Proofs.YtmippldlhnajkaaGreatDoor.Aw
open Go Go.Vm
structure Flt where
 code:Int
 at_:Int
def b8R (x:Flt):List V:=[.i x.code,.i x.at_]
def b1q:List Flt->List V
 | []=>[]
 | x::r=>.i x.code :: .i x.at_::b1q r
theorem c02:a2f 2 b8R b1q:=⟨fun _=>rfl,rfl,fun _ _=>rfl⟩
structure Typ where
 kind:Int
 name:Str
 n:Int
 args:List Typ
mutual
def Typ.sub:Typ->List V
 |⟨_,_,_,a3⟩=>C9 a3
def C9:List Typ->List V
 | []=>[]
 | x::r=>.i x.kind :: .str x.name :: .i x.n :: .slice .sealed (List.length x.args) (x.sub)::C9 r
end
def b8S (x:Typ):List V:=[.i x.kind,.str x.name,.i x.n,.sl C9 x.args]
theorem c06:a2f 4 b8S C9:=⟨fun _=>rfl,rfl,fun x r=>by cases x;rfl⟩
structure Nod where
 op:Int
 s:Str
 n:Int
 t:Typ
 ts:List Typ
 l:List Nod
 at_:Int
mutual
def Nod.sub:Nod->List V
 |⟨_,_,_,_,_,a5,_⟩=>F5 a5
def F5:List Nod->List V
 | []=>[]
 | x::r=>.i x.op :: .str x.s :: .i x.n :: .i x.t.kind :: .str x.t.name :: .i x.t.n :: .sl C9 x.t.args :: .sl C9 x.ts :: .slice .sealed (List.length x.l) (x.sub) :: .i x.at_::F5 r
end
def a7h (x:Nod):List V:=(c0 x.op x.s x.n x.t.kind x.t.name x.t.n (.sl C9 x.t.args) (.sl C9 x.ts) (.sl F5 x.l) x.at_)
theorem c04:a2f 10 a7h F5:=⟨fun _=>rfl,rfl,fun x r=>by cases x;rfl⟩
end Go.Proofs.YtmippldlhnajkaaGreatDoor.Aw
namespace Go.Proofs.YtmippldlhnajkaaGreatDoor.Aw
open Go Go.Vm
def T:List (Nat×Ty):=[
 (1,⟨.func,1,8,[.nilFunc]⟩),
 (2,⟨.int .i64,1,8,[.i 0]⟩),
 (3,⟨.int .i64,1,8,[.i 0]⟩),
 (4,⟨.bool,1,1,[.bool false]⟩),
 (5,⟨.int .u8,1,1,[.int .u8 0]⟩),
 (9,⟨.string,1,16,[.str []]⟩),
 (22,⟨.slice 24,1,24,[.slice .nil 0 []]⟩),
 (24,⟨.struct [(3,0),(9,1),(3,2),(22,3)],4,56,[.i 0,.str [],.i 0,.slice .nil 0 []]⟩),
 (25,⟨.slice 27,1,24,[.slice .nil 0 []]⟩),
 (27,⟨.struct [(3,0),(9,1),(3,2),(24,3),(22,7),(25,8),(3,9)],10,144,[.i 0,.str [],.i 0,.i 0,.str [],.i 0,.slice .nil 0 [],.slice .nil 0 [],.slice .nil 0 [],.i 0]⟩),
 (34,⟨.int .i64,1,8,[.i 0]⟩),
 (36,⟨.struct [(34,0),(3,1)],2,16,[.i 0,.i 0]⟩),
 (46,⟨.slice 36,1,24,[.slice .nil 0 []]⟩),
 (54,⟨.slice 5,1,24,[.slice .nil 0 []]⟩),
 (57,⟨.ptr 60,1,8,[.nilptr]⟩),
 (58,⟨.slice 9,1,24,[.slice .nil 0 []]⟩),
 (60,⟨.struct [(58,0)],1,24,[.slice .nil 0 []]⟩),
 (61,⟨.func,1,8,[.nilFunc]⟩),
 (63,⟨.iface,1,16,[.nilIface]⟩),
 (73,⟨.slice 88,1,24,[.slice .nil 0 []]⟩),
 (85,⟨.func,1,8,[.nilFunc]⟩),
 (88,⟨.struct [(3,0),(9,1),(3,2),(3,3)],4,40,[.i 0,.str [],.i 0,.i 0]⟩),
 (90,⟨.ptr 94,1,8,[.nilptr]⟩),
 (94,⟨.struct [(73,0),(3,1),(3,2)],3,40,[.slice .nil 0 [],.i 0,.i 0]⟩),
 (99,⟨.map 3 9,1,8,[.opq]⟩),
 (102,⟨.slice 3,1,24,[.slice .nil 0 []]⟩),
 (128,⟨.struct [(36,0)],2,16,[.i 0,.i 0]⟩),
 (137,⟨.func,1,8,[.nilFunc]⟩),
 (151,⟨.ptr 155,1,8,[.nilptr]⟩),
 (153,⟨.struct [(9,0),(3,1)],2,24,[.str [],.i 0]⟩),
 (155,⟨.struct [(153,0),(73,2),(36,3)],5,64,[.str [],.i 0,.slice .nil 0 [],.i 0,.i 0]⟩),
 (183,⟨.array 24 5,24,24,[.int .u8 0,.int .u8 0,.int .u8 0,.int .u8 0,.int .u8 0,.int .u8 0,.int .u8 0,.int .u8 0,.int .u8 0,.int .u8 0,.int .u8 0,.int .u8 0,.int .u8 0,.int .u8 0,.int .u8 0,.int .u8 0,.int .u8 0,.int .u8 0,.int .u8 0,.int .u8 0,.int .u8 0,.int .u8 0,.int .u8 0,.int .u8 0]⟩),
 (184,⟨.int .u64,1,8,[.int .u64 0]⟩),
 (189,⟨.ptr 153,1,8,[.nilptr]⟩),
 (192,⟨.array 32 9,32,512,[.str [],.str [],.str [],.str [],.str [],.str [],.str [],.str [],.str [],.str [],.str [],.str [],.str [],.str [],.str [],.str [],.str [],.str [],.str [],.str [],.str [],.str [],.str [],.str [],.str [],.str [],.str [],.str [],.str [],.str [],.str [],.str []]⟩),
 (194,⟨.array 27 9,27,432,[.str [],.str [],.str [],.str [],.str [],.str [],.str [],.str [],.str [],.str [],.str [],.str [],.str [],.str [],.str [],.str [],.str [],.str [],.str [],.str [],.str [],.str [],.str [],.str [],.str [],.str [],.str []]⟩),
 (234,⟨.slice 250,1,24,[.slice .nil 0 []]⟩),
 (250,⟨.struct [(58,0),(4,1)],2,32,[.slice .nil 0 [],.bool false]⟩),
 (254,⟨.int .i64,1,8,[.i 0]⟩)]
def keep:Nat->Nat->List Nat
 | 24,7=>[2,4,6,7,8]
 | 28,13=>[0,48,49,50]
 | 28,21=>[0,69,70,71]
 | 28,37=>[0,118,119,120]
 | 57,3=>[2,3,9,10,11]
 | 60,3=>[1,5,11,12,13]
 | 60,6=>[1,5,7,11,12,13,17,18,19]
 | 63,5=>[0,3,23,24,25]
 | 63,15=>[0,52,53,54]
 | 82,1=>[0,2,8,9,10]
 | 112,4=>[0,3]
 | 118,3=>[0,10,11,12]
 | 144,40=>[0,140,141,142]
 | 158,2=>[0,1,2,7]
 | 162,8=>[0,2,3]
 | 163,4=>[0,3]
 | 169,2=>[0,1,7,8]
 | 180,0=>[0]
 | 189,3=>[0,3,4]
 | 191,5=>[0,3]
 | 193,5=>[0,1,4,5,6]
 | 193,9=>[0,1,4,7]
 | 194,2=>[0,3]
 | 208,2=>[0,1,5]
 | 212,2=>[0,1,5,6]
 | 255,3=>[0,2,6,7,14,15]
 | 255,6=>[0,2,6,7,9,14,15]
 | 267,4=>[0,2,3,4]
 | 277,27=>[0,2,3]
 | 279,10=>[5,6,47,48,49]
 | _,_=>[]
def cut:Nat->Nat->Bool
 | _,_=>false
def b2m:List Nat:=[28,30,41,45,51,52,54,55,57,58,59,60,63,64,76,80,82,103,105,108,109,110,111,112,115,118,119,120,144,158,159,161,162,163,164,165,166,167,170,180,181,183,186,188,189,190,191,192,193,194,207,208,211,212,213,214,215,240,253,254,255,266,267,276,277,279]
def b1l:Nat->Nat->Bool
 | f,_=>has f b2m
def a5U:Nat->Nat->Bool
 | f,_=>has f b2m
def slk:Nat->Nat->List (Nat×Nat)
 | _,_=>[]
def sep:Nat->Nat->Option (List Nat×List Nat)
 | 24,3=>some ([0,1,2,3,4],[5,1000002])
 | 51,2=>some ([0,1,2,3,5,4,6,7],[5])
 | 55,12=>some ([0,1,2,3,4,5,6],[30])
 | 55,22=>some ([0,1,2,3,4,5,6],[64])
 | 55,27=>some ([0,1,2,3,4,5,6],[79])
 | 105,3=>some ([0,1,2,3,4,5,6,7,8,9,10,11,12,13],[32,28,24])
 | 108,3=>some ([0,1,2,3,4,5,6,7],[7])
 | 161,5=>some ([0,1,2,3,4,5,6],[15])
 | 161,13=>some ([0,1,2,3,4,5,6],[41])
 | 165,3=>some ([0,1,2,3,4,5,6,7,8,9,10,11],[20,18,14])
 | 193,11=>some ([0,2,3,1,4,5],[7])
 | 215,18=>some ([0,1,2,3,4,5,6,7],[56])
 | 215,37=>some ([0,1,2,3,4,5,6,7],[112])
 | 215,45=>some ([0,1,2,3,4,5,6,7],[144])
 | 255,7=>some ([0,1,2,3,4,5,6,7,8,9,10,11,12,13,14,15],[77,75,72,68])
 | 255,9=>some ([0,1,3,4,5,6,2,7,8,9],[])
 | 267,5=>some ([0,2,3,4,5,1,6,7,8],[4,17])
 | 267,8=>some ([0,1,2,3,4,5,6],[25])
 | 267,12=>some ([0,1,2,3,4,5,6,7],[38,36])
 | 267,14=>some ([0,1,2,3,4,5,6],[48])
 | 277,26=>some ([0,1,2,3,4,5,6,7],[77])
 | 277,28=>some ([0,1,2,3,4,5,6,7],[86])
 | _,_=>none
def mask:Nat->Nat->List Nat
 | 24,3=>[0,0,2,1,15]
 | 51,2=>[0,0,2,7,15,0,31,127]
 | 55,12=>[0,1,0,4,15,31,63]
 | 55,22=>[0,1,0,4,15,31,63]
 | 55,27=>[0,1,0,4,15,31,63]
 | 105,3=>[0,1,3,7,0,16,48,112,0,496,1023,2047,0,8191]
 | 108,3=>[0,1,0,4,12,31,63,127]
 | 161,5=>[0,1,0,4,15,31,63]
 | 161,13=>[0,1,0,4,15,31,63]
 | 165,3=>[0,1,3,7,0,16,48,112,255,511,0,2047]
 | 193,11=>[0,1,0,4,15,31]
 | 215,18=>[0,1,0,4,12,31,63,127]
 | 215,37=>[0,1,0,4,12,31,63,127]
 | 215,45=>[0,1,0,4,12,31,63,127]
 | 255,7=>[0,1,3,7,0,16,48,112,255,511,1023,0,2048,8191,0,32767]
 | 255,9=>[0,0,2,0,0,16,56,127,0,511]
 | 267,5=>[0,1,0,4,0,16,63,0,255]
 | 267,8=>[0,1,0,4,15,31,63]
 | 267,12=>[0,1,0,4,0,16,63,127]
 | 267,14=>[0,1,0,4,15,31,63]
 | 277,26=>[0,1,0,4,12,31,63,127]
 | 277,28=>[0,1,0,4,12,31,63,127]
 | _,_=>[]
def okL:List Nat:=[7,24,28,30,41,45,51,52,54,55,57,58,59,60,63,64,76,80,82,84,103,105,108,109,110,111,112,115,116,118,119,120,144,148,158,159,161,162,163,164,165,166,167,169,170,178,180,181,183,185,186,187,188,189,190,191,192,193,194,201,206,207,208,210,211,212,213,214,215,240,253,254,255,266,267,276,277,279]
def b9t:List Nat:=[52]
def a8S:List Nat:=[7,9,24,84,116,148,169,178,185,187,201,206,210]
def b34:List Nat:=[]
def tagL:List Nat:=[]++b2m
def argL:List Nat:=[]++b2m
theorem tys:tysB Tryz.prog T=true:=by kernel_rfl
theorem mixed:Tryz.prog.follows .mixedOrders=true:=by kernel_rfl
def b46:Nat->Option Hand
 | 33=>some (.plain b3L)
 | 53=>some (.via gPre b6D)
 | _=>none
noncomputable def a9Y:Env:={P:=Tryz.prog,T:=T,keep:=keep,byref:=fun _ _=>none,meth:=fun _ _=>none,tags:=fun g=>has g tagL,argTags:=fun g=>has g argL,quiet:=fun g=>has g a8S,loose:=fun _=>false,ok:=fun g=>has g okL,cut:=cut,b1l:=b1l,a5U:=a5U,sep:=sep,mask:=mask,look:=fun g=>has g b9t,frz:=fun g=>has g b34,slk:=slk,full:=true,intr:=b46}
theorem c0Z:a9V a9Y okL=true:=by kernel_rfl
theorem b7X:a6B a9Y:=by
 intro _ _ _ h
 cases h
theorem envOk0:a6z a9Y:=⟨b7X,a7z tys,mixed,a6t (fun _ h=>h) c0Z,(fun g h hg=>by simp only[a9Y,b46]at hg;first |(cases hg;done) |(split at hg<;>first |(cases hg;done) |(cases hg;exact b4s))),(fun g pre post hg=>by simp only[a9Y,b46]at hg;first |(cases hg;done) |(split at hg<;>first |(cases hg;done) |(cases hg;exact a7j)))⟩
end Go.Proofs.YtmippldlhnajkaaGreatDoor.Aw
namespace Go.Vm
open Go
variable {env:Env}
def rho0:Rho:=⟨fun _=>none,fun _ _=>none⟩
def lab0:Lab:=fun _ _=>none
theorem rho0_le (ρ:Rho):rho0.le ρ:=⟨fun _ _ h=>(by cases h),fun _ _ _ h=>(by cases h)⟩
def b4g (B:Nat):Rho:=⟨fun k=>if k=0 then some (some (B,0),none)else none,fun k n=>if k=1/\n=0 then some (none,0)else none⟩
def a2P (B:Nat):Lab:=fun b o=>if b=B/\o=0 then some (some 0)else none
def hp1:Hp:=[(0,.row [.slice (.tag 1) 0 []]),(1,.tip 0 0)]
theorem old_rel {w0 w:World}{B:Nat}(hB:w0.heap.size<=B)(hk:∀b,b<w0.heap.size->w.heap[b]? = w0.heap[b]?){v:V}{x:Value}(h:Rel rho0 lab0 w0 v x):Rel (b4g B) (a2P B) w v x:=by
 have h1:Rel rho0 (a2P B) w v x:=by
  refine h.carry fun b o x h=>?_
  have hb:=Z6 h.cell
  refine⟨?_,?_⟩
  ·simp only[a2P]
   rw[if_neg (by omega)]
  ·simp only[cellAt,World.cell?,hk b hb]
   exact h.cell
 exact h1.ext (Ext.refl _ _) (rho0_le _)
theorem sim1 {w:World}{B:Nat}(hkp:KpW w)(hkB:kpG<B)(hc:w.cell? ⟨B,0,none⟩=some (.slice none 0 0))(hz:w.frozen? ⟨B,0,none⟩=false):Sim (b4g B) (a2P B) hp1 w where
 kp:=⟨hkp,fun o k h=>by
  simp only[a2P]at h
  rw[if_neg (by omega)]at h
  cases h⟩
 row:=fun k cs h=>by
  have:k=0/\cs=[.slice (.tag 1) 0 []]:=by
   simp only[hp1,hget]at h
   split at h
   ·rename_i hb;cases h;exact⟨(Nat.eq_of_beq_eq_true hb).symm,rfl⟩
   ·split at h
    ·cases h
    ·cases h
  obtain⟨rfl,rfl⟩:=this
  refine⟨B,0,[.slice none 0 0],by simp[b4g],?_,fun i x hx=>?_⟩
  ·refine C8.2 ⟨_,_,rfl,.slice _ 0 [] [] 0 0 none 0 rfl (Nat.le_refl _) (fun h=>by omega) (fun _=>rfl) (fun i x h=>by simp at h) (fun i v x h=>by simp at h) (by simp[b4g]) (by simp) (by simp),⟨rfl,by simp⟩⟩
  ·match i,hx with
   | 0,hx =>
    cases hx
    exact⟨⟨by simp[a2P],hz,_,hc⟩,hc⟩
   | i+1,hx=>simp at hx
 grow:=fun k e cs h=>by
  simp only[hp1,hget]at h
  split at h
  ·cases h
  ·split at h<;>cases h
 tip:=fun k e n h=>by
  have:k=1/\e=0/\n=0:=by
   simp only[hp1,hget]at h
   split at h
   ·cases h
   ·split at h
    ·rename_i hb;cases h;exact⟨(Nat.eq_of_beq_eq_true hb).symm,rfl,rfl⟩
    ·cases h
  obtain⟨rfl,rfl,rfl⟩:=this
  exact⟨none,0,by simp[b4g],Nat.le_refl _,fun _=>rfl,fun _=>rfl,fun a h=>by cases h⟩
 mp:=fun k es h=>by
  simp only[hp1,hget]at h
  split at h
  ·cases h
  ·split at h<;>cases h
 hdom:=fun k n x h=>by
  simp only[b4g]at h
  split at h
  ·rename_i hk
   obtain⟨rfl,rfl⟩:=hk
   exact⟨0,0,rfl,Nat.le_refl _⟩
  ·cases h
 adom:=fun k x h=>by
  simp only[b4g]at h
  split at h
  ·rename_i hk
   subst hk
   simp[hp1,hget]
  ·cases h
 ldom:=fun b o k h=>by
  simp only[a2P]at h
  split at h
  ·rename_i hb
   obtain⟨rfl,rfl⟩:=hb
   exact Z6 hc
  ·cases h
theorem b21 {w w':World}{B:Nat}{lab':Lab}(E:Ext (a2P B) w lab' w'):Wrote B w w' :=
 ⟨E.size,E.os,E.tape,E.output,fun b hb hn=>E.blk b hb (fun o k h=>by
  simp only[a2P]at h
  rw[if_neg (fun h=>hn h.1)]at h
  cases h)⟩
theorem c4k (hE:a6z env){g1 g2:Nat}{c:V}{H1 H2:Hp}{s:List UInt8}
  (h1:E env (.call g1 [.ptr 0 0,c]) hp1=some (.ret (.tuple []) H1)) (h2:E env (.call g2 [.ptr 0 0]) H1=some (.ret (.str s) H2))
  {w0 w:World} {B:Nat} (hkp:KpW w0) (hkw:w0.heap.size<=w.heap.size) (hB:w0.heap.size<=B) (hk:∀b,b<w0.heap.size->w.heap[b]? = w0.heap[b]?) (hc:w.cell? ⟨B,0,none⟩=some (.slice none 0 0)) (hz:w.frozen? ⟨B,0,none⟩=false) {x:Value} (hx:Rel rho0 lab0 w0 c x) :
  Calls env.P g1 #[.pointer (some ⟨B,0,none⟩),x] w fun e w1=>e=.returned (.tuple #[])/\Wrote B w w1 /\
   Calls env.P g2 #[.pointer (some ⟨B,0,none⟩)] w1 fun e w2=>e=.returned (.string ⟨⟨s⟩⟩)/\Wrote B w w2:=by
 obtain⟨k1,hk1⟩:=(a0I env).at_ _ _ _ h1
 obtain⟨k2,hk2⟩:=(a0I env).at_ _ _ _ h2
 have hS:=sim1 ⟨Nat.lt_of_lt_of_le hkp.1 hkw,by rw[hk kpG hkp.1];exact hkp.2⟩ (Nat.lt_of_lt_of_le hkp.1 hB) hc hz
 have hp:Rel (b4g B) (a2P B) w (.ptr 0 0) (.pointer (some ⟨B,0+0,none⟩)):=.ptr 0 0 B 0 none (by simp[b4g])
 have hL:H6 (b4g B) (a2P B) w [.ptr 0 0,c] [.pointer (some ⟨B,0,none⟩),x]:=C8.2 ⟨_,_,rfl,hp,C8.2 ⟨_,_,rfl,old_rel hB hk hx,⟨rfl,by simp⟩⟩⟩
 have C1:=(b5S hE k1).1.call g1 _ _ _ hk1 (b4g B) (a2P B) w _ ⟨rfl,rfl,trivial⟩ hS hL
 refine C1.mono fun e w1 hP=>?_
 cases e with
 | returned v =>
  obtain⟨ρ',lab',s1,s2,s3,s4,s5,s6⟩:=hP
  have hv:v=.tuple #[]:=by
   cases s4 with
   | tuple _ zs h1 h2 =>
    have:zs=[]:=by simpa using h1
    subst this;rfl
  refine⟨by rw[hv],b21 s2,?_⟩
  have ha:ρ'.at_ 0=some (some (B,0),none):=s3.at_ 0 _ (by decide) (by simp[b4g])
  have hp2:Rel ρ' lab' w1 (.ptr 0 0) (.pointer (some ⟨B,0+0,none⟩)):=.ptr 0 0 B 0 none ha
  have hL2:H6 ρ' lab' w1 [.ptr 0 0] [.pointer (some ⟨B,0,none⟩)]:=C8.2 ⟨_,_,rfl,hp2,⟨rfl,by simp⟩⟩
  have C2:=(b5S hE k2).1.call g2 _ _ _ hk2 ρ' lab' w1 _ s5 s1 hL2
  refine C2.mono fun e w2 hP=>?_
  cases e with
  | returned v2 =>
   obtain⟨ρ2,lab2,t1,t2,t3,t4,t5,t6⟩:=hP
   have hv2:v2=.string ⟨⟨s⟩⟩:=by cases t4;rfl
   exact⟨by rw[hv2],b21 (s2.trans t2)⟩
  | panicked ch=>exact hP.elim
  | outgrown=>exact hP.elim
 | panicked ch=>exact hP.elim
 | outgrown=>exact hP.elim
end Go.Vm
namespace Go.Proofs.YtmippldlhnajkaaGreatDoor.Aw
open Go Go.Vm Go.RowKit Go.Lib
theorem nf_rel0 {ρ:Rho}{lab:Lab}{w:World}{v:V}{x:Value}(h:Rel ρ lab w v x)(hn:NF v):Rel rho0 lab0 w v x:=NF.rel (fun _ _ _=>rfl) h hn
theorem a4J {p:Prop}(h:p):Hid p:=h
def b3f (c:List V)(s:List UInt8):Prop:=∃H1 H2,E a9Y (.call 28 [.ptr 0 0,.agg c]) hp1=some (.ret (.tuple []) H1)/\E a9Y (.call 30 [.ptr 0 0]) H1=some (.ret (.str s) H2)
def printed (l:List (List UInt8)):List UInt8:=(l.map (· ++ [10])).flatten
theorem b8f {l:List (List UInt8)}{k:Nat}{s:List UInt8}(h:l[k]? = some s):printed (l.take (k+1))=printed (l.take k)++s++[10]:=by
 unfold printed
 rw[List.take_add_one,h]
 simp
theorem c1K (l:List (List UInt8))(k:Nat):(printed (l.take k)).length <=(printed l).length:=by
 have h:printed l=printed (l.take k)++printed (l.drop k):=by
  unfold printed
  rw[<-List.flatten_append,<-List.map_append,List.take_append_drop]
 rw[h,List.length_append];omega
theorem bld_kept {T e:TypeId}{B0 b:Nat}{bs:List Value}{w w':World}(h:IsBuilder T e B0 b bs w)(hk:∀k,k<w.heap.size->w'.heap[k]? = w.heap[k]?):IsBuilder T e B0 b bs w':=by
 have key:∀{p:Value},BuilderAt T e B0 b p bs w->BuilderAt T e B0 b p bs w':=by
  rintro p ⟨h1,v,h2,h3,h4⟩
  have hb:b<w.heap.size:=by
   rcases Nat.lt_or_ge b w.heap.size with h|h
   ·exact h
   ·rw[Array.getElem?_eq_none h]at h2;cases h2
  refine⟨h1,v,(hk b hb).trans h2,?_,h4⟩
  refine⟨h3.1,?_⟩
  rcases h3.2 with h5 |⟨g,cap,cur,h5,h6,h7,h8⟩
  ·exact .inl h5
  ·have hg:g<w.heap.size:=by
    rcases Nat.lt_or_ge g w.heap.size with h|h
    ·exact h
    ·rw[Array.getElem?_eq_none h]at h7;cases h7
   exact .inr ⟨g,cap,cur,h5,h6,(hk g hg).trans h7,h8⟩
 rcases h with h|h
 ·exact .inl (key h)
 ·exact .inr (key h)
theorem b87 (T e:TypeId)(B0:Nat)(w:World)(hB:B0<=w.heap.size):IsBuilder T e B0 w.heap.size [] (w.alloc (.cells #[.pointer none,.slice none 0 0] T)):=by
 have key:∀{p:Value},BuilderAt T e w.heap.size w.heap.size p [] (w.alloc (.cells #[.pointer none,.slice none 0 0] T))->BuilderAt T e B0 w.heap.size p [] (w.alloc (.cells #[.pointer none,.slice none 0 0] T)):=by
  rintro p ⟨h1,v,h2,h3,h4⟩
  refine⟨hB,v,h2,⟨h3.1,?_⟩,h4⟩
  rcases h3.2 with h5 |⟨g,cp,cur,h5,h6,r⟩
  ·exact .inl h5
  ·exact .inr ⟨g,cp,cur,h5,by omega,r⟩
 rcases fresh_isBuilder T e w with h|h
 ·exact .inl (key h)
 ·exact .inr (key h)
structure Kid (w:World)(b o:Nat)(s:List UInt8)(k:Nat):Prop where
 ex:∃c y0 y1 y2 y3 y4 y5 y6 y7 y8 y9,w.cell? ⟨b,o+k*10,none⟩=some y0/\w.cell? ⟨b,o+k*10+1,none⟩=some y1/\w.cell? ⟨b,o+k*10+2,none⟩=some y2/\w.cell? ⟨b,o+k*10+3,none⟩=some y3 /\
  w.cell? ⟨b,o+k*10+4,none⟩=some y4/\w.cell? ⟨b,o+k*10+5,none⟩=some y5/\w.cell? ⟨b,o+k*10+6,none⟩=some y6/\w.cell? ⟨b,o+k*10+7,none⟩=some y7/\w.cell? ⟨b,o+k*10+8,none⟩=some y8/\w.cell? ⟨b,o+k*10+9,none⟩=some y9 /\
  Rel rho0 lab0 w (.agg c) (.agg #[y0,y1,y2,y3,y4,y5,y6,y7,y8,y9])/\b3f c s /\ ∀y ∈ [y0,y1,y2,y3,y4,y5,y6,y7,y8,y9],y.oneCell'=true
theorem c0N {a b:Nat}{w w':World}(h:a<=b)(hB:Below b w w'):Below a w w':=⟨hB.os,hB.tape,hB.output,hB.size,fun k hk=>hB.block k (by omega)⟩
theorem b7a (w:World)(cs:Array Value)(t:TypeId)(i:Nat)(v:Value)(hi:i<cs.size)(hv:v.oneCell'=true):(store ⟨w.heap.size,i,none⟩ v).run Tryz.prog (w.alloc (.cells cs t))=.ok () (w.alloc (.cells (cs.setIfInBounds i v) t)):=by
 have h1:(w.alloc (.cells cs t)).cell? ⟨w.heap.size,i,none⟩=some cs[i]:=by simp[hi]
 have h2:(w.alloc (.cells cs t)).frozen? ⟨w.heap.size,i,none⟩=false:=by simp
 rw[run_store _ _ _ _ _ hv]
 simp[stored,go_sem,h1,h2,World.setCell_alloc_new]
theorem c1J (v0 v1 v2 v3 v4 v5 v6 v7 v9:Value)(ao:Option Addr)(b o cap:Nat)(l:List (List UInt8))(w:World)(hkp:KpW w)(hn:l.length<=cap)(hao:0<l.length->ao=some ⟨b,o,none⟩)
  (hb:0<l.length->b<w.heap.size) (hN:l.length<=140737488355328) (hK:∀(k:Nat) s,l[k]? = some s->Kid w b o s k) (hlen:(printed l).length<=140737488355328) :
  Calls Tryz.prog 9 #[.agg #[v0,v1,v2,v3,v4,v5,v6,v7,.slice ao l.length cap,v9]] w fun e w'=>e=.returned (.string ⟨(printed l).toArray⟩)/\Below w.heap.size w w':=by
 have HK:=a4J hK
 have Hlen:=a4J hlen
 have Hao:=a4J hao
 have Hb:=a4J hb
 clear hK hlen hao hb
 go_enter Tryz.func9,Tryz.ntmps9
 go_wp2_with fail
 go_loopw [10] (fun i wr=>∃k:Nat,k<=l.length/\i=.int .i64 k/\Hid (IsBuilder 56 5 w.heap.size (w.heap.size+1) (byteCells (printed (l.take k))) wr)/\Hid (Below w.heap.size w wr)) (fun i _=>l.length-(RowKit.intOf i).toNat)
 case atStart =>
  refine⟨0,Nat.zero_le _,rfl,a4J ?_,a4J ?_⟩
  ·have:=b87 56 5 w.heap.size (w.alloc (.cells #[v0,v1,v2,v3,v4,v5,v6,v7,.slice ao l.length cap,v9] 27)) (by rw[World.size_alloc];omega)
   rw[World.size_alloc]at this
   exact this
  ·exact((Below.refl w.heap.size w).alloc (Nat.le_refl _) _).alloc (by rw[World.size_alloc];omega) _
 case round =>
  obtain⟨k,hk,rfl,HB,HW⟩:=hrel
  by_cases hkn:k<l.length
  ·obtain⟨s,hs⟩:∃s,l[k]? = some s:=⟨l[k],List.getElem?_eq_getElem hkn⟩
   have hao:=Hao.out (by omega)
   subst hao
   have hbw:=Hb.out (by omega)
   obtain⟨c,y0,y1,y2,y3,y4,y5,y6,y7,y8,y9,c0,c1,c2,c3,c4,c5,c6,c7,c8,c9,hr,hline,hone⟩:=(HK.out k s hs).ex
   have cc:∀j,wr.cell? ⟨b,j,none⟩=w.cell? ⟨b,j,none⟩:=fun j=>HW.out.cell (p:=⟨b,j,none⟩) hbw
   rw[<-cc]at c0 c1 c2 c3 c4 c5 c6 c7 c8 c9
   obtain⟨H1,H2,q1,q2⟩:=hline
   have Q1:=a4J q1
   have Q2:=a4J q2
   have HR:=a4J hr
   have Hs:=a4J hs
   have hBw:=HW.out.size
   clear q1 q2 hr hs cc
   go_wp2_with fail
   rw[b7a _ _ _ _ _ (by simp) (hone _ (by simp))]
   simp only[Result.andThen]
   repeat(rw[b7a _ _ _ _ _ (by simp) (hone _ (by simp))];simp only[Result.andThen])
   have hset:((((((((((#[Value.int .i64 0,.string {data:=#[]},.int .i64 0,.int .i64 0,.string {data:=#[]},.int .i64 0,.slice none 0 0,.slice none 0 0,.slice none 0 0,.int .i64 0].setIfInBounds 0 y0).setIfInBounds 1 y1).setIfInBounds 2 y2).setIfInBounds 3 y3).setIfInBounds 4 y4).setIfInBounds 5 y5).setIfInBounds 6 y6).setIfInBounds 7 y7).setIfInBounds 8 y8).setIfInBounds 9 y9) = #[y0,y1,y2,y3,y4,y5,y6,y7,y8,y9]:=by simp
   rw[hset]
   clear hset
   go_wp2_with fail
   have hsz:((wr.alloc (.cells #[y0,y1,y2,y3,y4,y5,y6,y7,y8,y9] 27)).alloc (.cells #[.slice none 0 0] 60)).heap.size=wr.heap.size+2:=by rw[World.size_alloc,World.size_alloc]
   have hold:∀j,j<wr.heap.size ->((wr.alloc (.cells #[y0,y1,y2,y3,y4,y5,y6,y7,y8,y9] 27)).alloc (.cells #[.slice none 0 0] 60)).heap[j]? = wr.heap[j]?:=fun j hj =>
    (alloc_old _ _ j (by rw[World.size_alloc];omega)).trans (alloc_old _ _ j hj)
   have hcW:((wr.alloc (.cells #[y0,y1,y2,y3,y4,y5,y6,y7,y8,y9] 27)).alloc (.cells #[.slice none 0 0] 60)).cell? ⟨wr.heap.size+1,0,none⟩=some (.slice none 0 0):=by
    have:=World.cell?_alloc_new (wr.alloc (.cells #[y0,y1,y2,y3,y4,y5,y6,y7,y8,y9] 27)) #[.slice none 0 0] 60 0
    rw[World.size_alloc]at this
    exact this
   have hzW:((wr.alloc (.cells #[y0,y1,y2,y3,y4,y5,y6,y7,y8,y9] 27)).alloc (.cells #[.slice none 0 0] 60)).frozen? ⟨wr.heap.size+1,0,none⟩=false:=by
    have:=World.frozen?_alloc_new (wr.alloc (.cells #[y0,y1,y2,y3,y4,y5,y6,y7,y8,y9] 27)) #[.slice none 0 0] 60 0
    rw[World.size_alloc]at this
    exact this
   refine(c4k envOk0 Q1.out Q2.out (w0:=w) (w:=((wr.alloc (.cells #[y0,y1,y2,y3,y4,y5,y6,y7,y8,y9] 27)).alloc (.cells #[.slice none 0 0] 60))) (B:=wr.heap.size+1) hkp (by rw[hsz];omega) (by omega) (fun j hj=>(hold j (by omega)).trans (HW.out.block j hj)) hcW hzW HR.out).mono ?_
   rintro e w1 ⟨rfl,hw1,C2⟩
   have CC:=a4J C2
   clear C2 hcW hzW
   go_wp2_with fail
   refine CC.out.mono ?_
   rintro e w2 ⟨rfl,hw2⟩
   have hk2:∀j,j<wr.heap.size->w2.heap[j]? = wr.heap[j]?:=fun j hj=>(hw2.blk j (by omega) (by omega)).trans (hold j hj)
   have hs2:wr.heap.size<=w2.heap.size:=by have:=hw2.size;omega
   have hlen:=Hlen.out
   have hlk:=c1K l (k+1)
   have hpt:=b8f Hs.out
   rw[hpt,List.length_append,List.length_append,List.length_singleton]at hlk
   have HB2:=a4J (bld_kept HB.out hk2)
   have HW2:=a4J (⟨hw2.os,hw2.tape,hw2.output,hs2,fun j hj=>hk2 j (by omega)⟩:Below wr.heap.size wr w2)
   have Hpt:=a4J hpt
   clear hw1 hw2 hk2 CC hold hsz hpt
   go_wp2_with fail
   refine(Tryz.Builder_WriteString w.heap.size (w.heap.size+1) _ ⟨⟨s⟩⟩ w2 HB2.out (by rw[byteCells_length];simp only[ByteArray.size];simp;omega) (by omega)).mono ?_
   rintro e w3 ⟨rfl,h3,hb3⟩
   have H3:=a4J h3
   have Hb3:=a4J hb3
   clear h3 hb3
   go_wp2_with fail
   refine(Tryz.Builder_WriteByte w.heap.size (w.heap.size+1) _ 10 w3 (.inr H3.out) (by rw[List.length_append,byteCells_length,strCells_length];simp only[ByteArray.size];simp;omega) (by have:=Hb3.out.size;omega)).mono ?_
   rintro e w4 ⟨rfl,h4,hb4⟩
   have hnext:byteCells (printed (l.take k))++strCells ⟨⟨s⟩⟩++[.int .u8 10]=byteCells (printed (l.take (k+1))):=by
    rw[Hpt.out,strCells_eq,byteCells_append,byteCells_append]
    rfl
   rw[hnext]at h4
   have H4:=a4J (Or.inr h4:IsBuilder 56 5 w.heap.size (w.heap.size+1) _ w4)
   have Hb4:=a4J ((HW.out.trans (c0N hBw HW2.out)).trans (Hb3.out.trans hb4))
   clear h4 hb4 hnext
   go_wp2
   exact⟨⟨k+1,by omega,by go_num,H4,Hb4⟩,by simp[RowKit.intOf];omega⟩
  ·have hke:k=l.length:=by omega
   subst hke
   have hB':=HB.out
   rw[List.take_length]at hB'
   have hBw:=HW.out.size
   have HB2:=a4J hB'
   clear hB'
   go_wp2_with fail
   refine(Tryz.Builder_String_any w.heap.size (w.heap.size+1) _ wr HB2.out hBw).mono ?_
   rintro e w5 ⟨rfl,hb5⟩
   have Hb5:=a4J (HW.out.trans hb5)
   clear hb5
   go_wp2
   go_ret
   exact⟨rfl,Hb5.out⟩
theorem c1l {c:List V}{s s':List UInt8}(h:b3f c s)(g:b3f c s'):s=s':=by
 obtain⟨H1,H2,a1,a2⟩:=h
 obtain⟨K1,K2,b1,b2⟩:=g
 rw[a1]at b1
 cases b1
 rw[a2]at b2
 cases b2
 rfl
inductive Lines:List V->List (List UInt8)->Prop
 | nil:Lines [] []
 | cons (c r:List V) (s:List UInt8) (l:List (List UInt8)):c.length=10->b3f c s->Lines r l->Lines (c++r) (s::l)
theorem Lines.det {cs:List V}{l:List (List UInt8)}(h:Lines cs l):∀{l'},Lines cs l'->l=l':=by
 induction h with
 | nil =>
  intro l' g
  generalize hq:([]:List V)=q at g
  cases g with
  | nil=>rfl
  | cons c r s l h1 h2 h3 =>
   have:=congrArg List.length hq
   rw[List.length_append]at this
   simp at this
   omega
 | cons c r s l h1 h2 h3 ih =>
  intro l' g
  generalize hq:c++r=q at g
  cases g with
  | nil =>
   have:=congrArg List.length hq
   rw[List.length_append,h1]at this
   simp only[List.length_nil]at this
   omega
  | cons c' r' s' l'' g1 g2 g3 =>
   obtain⟨rfl,rfl⟩:=List.append_inj hq (by rw[h1,g1])
   rw[c1l h2 g2,ih g3]
theorem Lines.get {cs:List V}{l:List (List UInt8)}(h:Lines cs l):∀{k:Nat} {s:List UInt8},l[k]? = some s->b3f ((cs.drop (k*10)).take 10) s/\k*10+10<=cs.length:=by
 induction h with
 | nil=>intro k s h;simp at h
 | cons c r s0 l h1 h2 h3 ih =>
  intro k s hk
  cases k with
  | zero =>
   simp only[List.getElem?_cons_zero,Option.some.injEq]at hk
   subst hk
   refine⟨?_,by rw[List.length_append];omega⟩
   rw[Nat.zero_mul,List.drop_zero,List.take_append_of_le_length (by omega),List.take_of_length_le (by omega)]
   exact h2
  | succ k =>
   simp only[List.getElem?_cons_succ]at hk
   obtain⟨g1,g2⟩:=ih hk
   refine⟨?_,by rw[List.length_append];omega⟩
   rw[show(k+1)*10=c.length+k*10 from by omega,<-List.drop_drop,List.drop_left]
   exact g1
noncomputable def b1N:List V->Hp->Option Out:=fun args H=>match args with
 | [.agg [_,_,_,_,_,_,_,_,.slice _ n cs,_]]=>@dite _ (∃l,Lines cs l/\l.length=n/\l.length<=140737488355328/\(printed l).length<=140737488355328) (Classical.propDecidable _) (fun h=>some (.ret (.str (printed h.choose)) H)) (fun _=>none)
 | _=>none
theorem c3Q {c0 c1 c2 c3 c4 c5 c6 c7 c9:V}{ow:Own}{n:Nat}{cs:List V}{l:List (List UInt8)}{H:Hp}(h:Lines cs l)(hn:l.length=n)(hN:l.length<=140737488355328)(hl:(printed l).length<=140737488355328) :
  b1N [.agg [c0,c1,c2,c3,c4,c5,c6,c7,.slice ow n cs,c9]] H=some (.ret (.str (printed l)) H):=by
 have hex:∃l,Lines cs l/\l.length=n/\l.length<=140737488355328/\(printed l).length<=140737488355328:=⟨l,h,hn,hN,hl⟩
 have he:hex.choose=l:=(h.det hex.choose_spec.1).symm
 simp only[b1N]
 rw[dif_pos hex,he]
theorem ten {α:Type}(l:List α)(h:l.length=10):∃y0 y1 y2 y3 y4 y5 y6 y7 y8 y9,l=[y0,y1,y2,y3,y4,y5,y6,y7,y8,y9]:=by
 match l,h with
 | [y0,y1,y2,y3,y4,y5,y6,y7,y8,y9],_=>exact⟨_,_,_,_,_,_,_,_,_,_,rfl⟩
theorem print_ok:a6A Tryz.prog 9 b1N:=by
 refine⟨fun args H out h ρ lab w xs hc hS hx=>?_,⟨_,_,Tryz.func9,rfl,rfl⟩⟩
 unfold b1N at h
 split at h
 ·rename_i c0 c1 c2 c3 c4 c5 c6 c7 ow n cs c9
  split at h
  ·rename_i hex
   cases h
   obtain⟨hL,hn,hN,hlen⟩:=hex.choose_spec
   generalize hex.choose=l at hL hn hN hlen
   obtain⟨x1,r1,rfl,a1,a2⟩:=C8.1 hx
   have:r1=[]:=by have:=a2.1;simpa using this
   subst this
   cases a1 with
   | agg _ vs e1 e2 =>
   obtain⟨v0,v1,v2,v3,v4,v5,v6,v7,v8,v9,rfl⟩:=ten vs (by rw[e1];rfl)
   have q8:=e2 8 _ _ rfl rfl
   cases q8 with
   | slice _ _ _ ys b o ao cap g1 g2 g3 g4 g5 g6 g7 g8 g9 =>
   subst hn
   have K:=c1J v0 v1 v2 v3 v4 v5 v6 v7 v9 ao b o cap l w hS.kp.1 g2 g3 (fun h0=>?_) hN (fun k s hk=>⟨?_⟩) hlen
   ·refine K.mono fun e w' ⟨he,hw⟩=>?_
    subst he
    have G:Z5 w w':=⟨hw.size,hw.os,hw.tape,hw.output,fun b hb=>hw.block b hb⟩
    exact⟨ρ,lab,hS.grew G,G.ext lab,⟨fun _ _ _ h=>h,fun _ _ _ _ h=>h⟩,.str _,hc,Nat.le_refl _⟩
   ·obtain⟨_,h2⟩:=hL.get (List.getElem?_eq_getElem h0)
    have hy:0<ys.length:=by rw[g1];omega
    have:=g5 0 ys[0] (by simp[hy])
    exact Z6 this.cell
   ·obtain⟨h1,h2⟩:=hL.get hk
    have hlen2:((ys.drop (k*10)).take 10).length=10:=by
     rw[List.length_take,List.length_drop,g1];omega
    obtain⟨y0,y1,y2,y3,y4,y5,y6,y7,y8,y9,hy⟩:=ten _ hlen2
    have get:∀j,j<10 -> ∀y,[y0,y1,y2,y3,y4,y5,y6,y7,y8,y9][j]? = some y->ys[k*10+j]? = some y:=by
     intro j hj y hyj
     rw[<-hy,List.getElem?_take,if_pos hj,List.getElem?_drop]at hyj
     exact hyj
    have cell:∀j,j<10 -> ∀y,[y0,y1,y2,y3,y4,y5,y6,y7,y8,y9][j]? = some y->w.cell? ⟨b,o+k*10+j,none⟩=some y:=by
     intro j hj y hyj
     have:=(g5 _ _ (get j hj y hyj)).cell
     rw[<-Nat.add_assoc]at this
     exact this
    refine⟨(cs.drop (k*10)).take 10,y0,y1,y2,y3,y4,y5,y6,y7,y8,y9,cell 0 (by omega) _ rfl,cell 1 (by omega) _ rfl,cell 2 (by omega) _ rfl,cell 3 (by omega) _ rfl,cell 4 (by omega) _ rfl,cell 5 (by omega) _ rfl,cell 6 (by omega) _ rfl,cell 7 (by omega) _ rfl,cell 8 (by omega) _ rfl,cell 9 (by omega) _ rfl,?_,h1,?_⟩
    ·refine .agg _ [y0,y1,y2,y3,y4,y5,y6,y7,y8,y9] ?_ (fun i v x hv hx=>?_)
     ·rw[List.length_take,List.length_drop]
      show 10=_
      omega
     ·have hi:i<10:=by
       rcases Nat.lt_or_ge i 10 with h|h
       ·exact h
       ·rw[List.getElem?_eq_none (by simpa using h)]at hx;cases hx
      rw[List.getElem?_take,if_pos hi,List.getElem?_drop]at hv
      exact nf_rel0 (g6 _ _ _ hv (get i hi x hx)) (g9 v (List.mem_of_getElem? hv))
    ·intro y hyy
     obtain⟨j,hj,rfl⟩:=List.mem_iff_getElem.1 hyy
     exact g8 _ (List.mem_of_getElem? (get j (by simpa using hj) _ (by simp[hj])))
  ·cases h
 ·cases h
end Go.Proofs.YtmippldlhnajkaaGreatDoor.Aw
namespace Go.Proofs.YtmippldlhnajkaaGreatDoor.Aw
open Go Go.Vm
noncomputable def a99:Nat->Option Hand
 | 33=>some (.plain b3L)
 | 9=>some (.plain b1N)
 | 53=>some (.via gPre b6D)
 | _=>none
noncomputable def env:Env:={P:=Tryz.prog,T:=T,keep:=keep,byref:=fun _ _=>none,meth:=fun _ _=>none,tags:=fun g=>has g tagL,argTags:=fun g=>has g argL,quiet:=fun g=>has g a8S,loose:=fun _=>false,ok:=fun g=>has g okL,cut:=cut,b1l:=b1l,a5U:=a5U,sep:=sep,mask:=mask,look:=fun g=>has g b9t,frz:=fun g=>has g b34,slk:=slk,full:=true,intr:=a99}
theorem codes:a9V env okL=true:=by kernel_rfl
theorem b5o:a6B env:=by
 intro _ _ _ h
 cases h
theorem b3G:a6z env:=⟨b5o,a7z tys,mixed,a6t (fun _ h=>h) codes,(fun g h hg=>by simp only[env,a99]at hg;first |(cases hg;done) |(split at hg<;>first |(cases hg;done) |(cases hg;exact b4s) |(cases hg;exact print_ok))),(fun g pre post hg=>by simp only[env,a99]at hg;first |(cases hg;done) |(split at hg<;>first |(cases hg;done) |(cases hg;exact a7j)))⟩
end Go.Proofs.YtmippldlhnajkaaGreatDoor.Aw
