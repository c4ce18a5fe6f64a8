/- Texts of ParsePrints, joined. -/
import Derived.Test.YtmippldlhnajkaaGreatDoorParsePrintsJ12
import Derived.KernelRfl
import Derived.Test.YtmippldlhnajkaaGreatDoorProg
set_option maxRecDepth 100000
set_option maxHeartbeats 20000000
set_option linter.unusedSimpArgs false
set_option linter.unusedVariables false
set_option linter.unusedSectionVars false
namespace Go.Proofs.YtmippldlhnajkaaGreatDoor
open Go Go.Vm
def T:List (Nat×Ty):=[(3,⟨.int .i64,1,8,[.i 0]⟩),(4,⟨.bool,1,1,[.bool false]⟩),(5,⟨.int .u8,1,1,[.int .u8 0]⟩),(9,⟨.string,1,16,[.str []]⟩),(22,⟨.slice 24,1,24,[.slice .nil 0 []]⟩),(24,⟨.struct [(3,0),(9,1),(3,2),(22,3)],4,56,[.i 0,.str [],.i 0,.slice .nil 0 []]⟩),(25,⟨.slice 27,1,24,[.slice .nil 0 []]⟩),(27,⟨.struct [(3,0),(9,1),(3,2),(24,3),(22,7),(25,8),(3,9)],10,144,[.i 0,.str [],.i 0,.i 0,.str [],.i 0,.slice .nil 0 [],.slice .nil 0 [],.slice .nil 0 [],.i 0]⟩),(34,⟨.int .i64,1,8,[.i 0]⟩),(36,⟨.struct [(34,0),(3,1)],2,16,[.i 0,.i 0]⟩),(46,⟨.slice 36,1,24,[.slice .nil 0 []]⟩),(58,⟨.slice 9,1,24,[.slice .nil 0 []]⟩),(73,⟨.slice 88,1,24,[.slice .nil 0 []]⟩),(76,⟨.ptr 78,1,8,[.nilptr]⟩),(78,⟨.struct [(73,0),(3,1),(3,2),(3,3)],4,48,[.slice .nil 0 [],.i 0,.i 0,.i 0]⟩),(88,⟨.struct [(3,0),(9,1),(3,2),(3,3)],4,40,[.i 0,.str [],.i 0,.i 0]⟩),(140,⟨.slice 58,1,24,[.slice .nil 0 []]⟩)]
def keep:Nat->Nat->List Nat|3,130003=>[1,10]|6,130006=>[1,25]|11,130003=>[2,3,4,51]|19,3=>[1,2,5,6]|19,9=>[1,2,5,7]|19,100007=>[1,2,5]|19,100009=>[1,2,5]|19,100013=>[1,5]|19,190022=>[1,2,5,6,22]|19,190053=>[1,2,5,7,53]|20,3=>[1,2,5,6]|20,7=>[1,2,5,7]|20,100007=>[1,2,5]|20,100011=>[5]|20,190025=>[1,2,5,6,25]|20,190048=>[1,2,5,7,48]|21,3=>[1,4,5,6]|21,100009=>[4,5]|22,8=>[2,4,6,7,8,9]|22,100025=>[2,4,6,7,8,9,10]|22,100026=>[2,7,9]|22,190044=>[2,4,6,7,8,9,44]|26,3=>[0,3,4]|26,100007=>[3]|27,3=>[0,3,4]|27,100007=>[3]|36,4=>[0,1,5]|36,100009=>[]|37,4=>[0,1,2,7]|37,100009=>[]|43,18=>[0,2,12,13]|43,100012=>[0,2,6]|43,100023=>[2,12,13]|43,130010=>[0,2,6,7,43]|43,190074=>[0,2,12,13,74]|47,3=>[1,2,5,6]|47,100007=>[1,5]|47,190016=>[1,2,5,6,16]|48,5=>[1,2,5,6]|48,100005=>[1,2,5]|48,100009=>[5]|48,130004=>[1,2,5,18]|48,190030=>[1,2,5,6,30]|49,100005=>[0,2,4]|49,100007=>[0,2,4]|50,6=>[0,7,8,9]|50,9=>[0,7,8]|50,100005=>[0,1,7]|50,100010=>[0,7,8]|50,100013=>[0,7]|50,190025=>[0,7,8,9,25]|50,190050=>[0,7,8,50]|75,6=>[0,1,4,6,7,8,9]|75,10=>[0,1,4,6,7,9,10,11]|75,100008=>[0,1,4,6,7,8,9]|75,100012=>[0,1,4,6,7,9,10,11]|75,100015=>[0,1,4,6,7,9,10]|75,100021=>[4,7,8]|75,190038=>[0,1,4,6,7,8,9,38]|92,3=>[0,4,5]|92,100010=>[4]|93,100011=>[2,4,6]|93,100024=>[2,4,6,9]|93,100026=>[2,4,6,9]|93,130009=>[2,4,7,31]|93,130013=>[2,4,6,9,34]|93,130015=>[2,4,6,9,42]|93,130017=>[2,4,6,9,50]|93,130019=>[2,4,6,9,58]|93,130021=>[2,4,6,9,66]|93,130023=>[2,4,6,9,74]|96,8=>[0,3,4,8]|96,100014=>[0,3,4,8,10]|96,100023=>[0,3,4,8]|96,100031=>[0,3,4,8]|96,130008=>[0,3,4,8,40]|96,130016=>[0,3,4,8,10,11,67]|96,130020=>[0,3,4,8,10,13,82]|96,190047=>[0,3,4,8,47]|97,8=>[0,3,4,8]|97,100013=>[0,3,4,8,10]|97,100024=>[0,3,4,8,10]|97,100027=>[0,3,4,8]|97,130008=>[0,3,4,8,37]|97,130022=>[0,3,4,8,10,13,78]|97,190044=>[0,3,4,8,44]|98,6=>[0,3,4,8]|98,18=>[0,3,4,8]|98,100019=>[0,3,4,8]|98,100024=>[0,3,4,8]|98,130004=>[0,3,4,6,28]|98,130016=>[0,3,4,8,9,12,60]|98,130022=>[0,3,4,8,14,81]|99,12=>[0,3,4,10]|99,24=>[0,3,4,10]|99,100025=>[0,3,4,10]|99,100030=>[0,3,4,10]|99,130004=>[0,3,4,6,31]|99,130012=>[0,3,4,10,56]|99,130018=>[0,3,4,10,12,13,76]|99,130022=>[0,3,4,10,12,15,91]|100,100025=>[0,1,4,6,9]|100,100030=>[0,1,4,6,9]|100,100039=>[4,6,9]|100,130011=>[0,1,4,6,9,47]|100,130022=>[0,1,4,6,9,11,12,80]|102,130013=>[8]|153,4=>[0,1,6]|153,100017=>[0,1]|155,5=>[0,4,5]|155,100014=>[4]|156,4=>[0,1,6]|156,100023=>[0,1,7]|156,100025=>[1]|157,4=>[0,1,6]|157,100011=>[0,1,7]|157,100021=>[0,1]|157,130013=>[0,1,7,8,37]|174,2=>[0,2,4,5]|174,100018=>[2,4,5]|179,2=>[0,4]|179,100008=>[4]|196,35=>[0,2,4,15]|196,100043=>[0,2,4]|196,100045=>[0,2]|197,6=>[0,1,6]|197,100015=>[0,1,8,9]|197,100019=>[0,1]|205,130004=>[0,2,4,24]|205,130028=>[0,2,4,14,125]|216,3=>[0,3,4]|216,100007=>[3]|217,2=>[0,2,4]|217,130011=>[0,2,4,7,61]|218,100015=>[0,2,4,5,6]|219,3=>[0,2,4,5,6]|219,100023=>[2,4]|220,4=>[0,2,4,6,7]|220,100009=>[2,6,7]|220,190024=>[0,2,4,6,7,24]|232,100006=>[0,2,4]|232,100017=>[0,2,4,7]|232,100024=>[0,2,4]|232,130023=>[0,2,4,62]|233,100017=>[2,4,5,7,8,9]|234,6=>[0,4,6,9]|234,100018=>[0,4,6,9]|234,100026=>[0,4,6,9]|234,130005=>[0,4,6,7,32]|250,37=>[0,2,4,15,16]|250,100044=>[0,2,4,15]|251,1=>[1]|251,100004=>[1]|251,190011=>[1,11]|_,_=>[]
def cut:Nat->Nat->Bool|3,30003=>true|6,30006=>true|11,30003=>true|19,7=>true|19,9=>true|19,13=>true|19,90022=>true|19,90053=>true|20,7=>true|20,11=>true|20,90025=>true|20,90048=>true|21,9=>true|22,25=>true|22,26=>true|22,90044=>true|26,7=>true|27,7=>true|36,9=>true|37,9=>true|43,12=>true|43,23=>true|43,30010=>true|43,90074=>true|47,7=>true|47,90016=>true|48,5=>true|48,9=>true|48,30004=>true|48,90030=>true|49,5=>true|49,7=>true|50,5=>true|50,10=>true|50,13=>true|50,90025=>true|50,90050=>true|75,8=>true|75,12=>true|75,15=>true|75,21=>true|75,90038=>true|92,10=>true|93,11=>true|93,24=>true|93,26=>true|93,30009=>true|93,30013=>true|93,30015=>true|93,30017=>true|93,30019=>true|93,30021=>true|93,30023=>true|96,14=>true|96,23=>true|96,31=>true|96,30008=>true|96,30016=>true|96,30020=>true|96,90047=>true|97,13=>true|97,24=>true|97,27=>true|97,30008=>true|97,30022=>true|97,90044=>true|98,19=>true|98,24=>true|98,30004=>true|98,30016=>true|98,30022=>true|99,25=>true|99,30=>true|99,30004=>true|99,30012=>true|99,30018=>true|99,30022=>true|100,25=>true|100,30=>true|100,39=>true|100,30011=>true|100,30022=>true|102,30013=>true|153,17=>true|155,14=>true|156,23=>true|156,25=>true|157,11=>true|157,21=>true|157,30013=>true|174,18=>true|179,8=>true|196,43=>true|196,45=>true|197,15=>true|197,19=>true|205,30004=>true|205,30028=>true|216,7=>true|217,30011=>true|218,15=>true|219,23=>true|220,9=>true|220,90024=>true|232,6=>true|232,17=>true|232,24=>true|232,30023=>true|233,17=>true|234,18=>true|234,26=>true|234,30005=>true|250,44=>true|251,4=>true|251,90011=>true|_,_=>false
def b0i:List Nat:=[]
def b0S:Nat->Nat->Bool|92,0=>true|153,0=>true|156,0=>true|157,0=>true|f,_=>has f b0i
def a6V:Nat->Nat->Bool|153,1=>true|156,1=>true|157,1=>true|197,1=>true|f,_=>has f b0i
def slk:Nat->Nat->List (Nat×Nat)|43,18=>[(12,3)]|75,6=>[(7,6),(7,7),(7,8)]|100,100030=>[(6,6)]|174,2=>[(4,6),(4,7),(4,8)]|197,100015=>[(8,6),(8,7),(8,8)]|218,100015=>[(5,6)]|219,3=>[(5,3)]|232,100017=>[(4,6)]|_,_=>[]
def sep:Nat->Nat->Option (List Nat×List Nat)|22,3=>some ([0,1,2,3,4],[5,1000002])|196,46=>some ([0,1,2,3,4,5,6,7],[20])|205,20=>some ([0,1,2,3,4,5,6,7],[9])|205,23=>some ([0,1,2,3,4,5,6,7,8,9,10],[12])|217,2=>some ([0,1,2,3,4,5,6,7,8,9,10,11],[21,19,15])|219,6=>some ([0,1,2,3,4,5,6,7],[5,1000033])|219,16=>some ([0,1,2,3,4,5,6,7],[5,1000062,1000063])|235,12=>some ([0,1,2,3,4,5,6,7,8,9,10,11,12],[7,4,44])|_,_=>none
def mask:Nat->Nat->List Nat|22,3=>[0,0,2,1,15]|196,46=>[0,0,2,6,14,30,31,127]|205,20=>[0,0,2,6,14,30,31,127]|205,23=>[0,0,2,7,0,16,48,112,240,255,1023]|217,2=>[0,1,3,7,0,16,48,112,255,511,0,2047]|219,6=>[0,0,0,4,13,29,63,127]|219,16=>[0,0,0,4,13,29,63,127]|235,12=>[0,1,0,0,12,31,0,64,192,448,960,1023,4095]|_,_=>[]
def okL:List Nat:=[3,5,6,8,11,19,20,21,22,23,25,26,27,35,36,37,39,40,43,47,48,49,50,75,89,90,91,92,93,96,97,98,99,100,101,102,139,140,141,151,152,153,154,155,156,157,174,179,196,197,205,216,217,218,219,220,232,233,234,235,250,251]
def b7w:List Nat:=[52]
def a8C:List Nat:=[3,5,6,7,8,9,10,11,19,20,21,22,23,25,26,27,35,36,37,38,47,48,50,101,102,139,216,251]
def b5e:List Nat:=[]
def tagL:List Nat:=[92,153,156,157]++b0i
def argL:List Nat:=[153,156,157,197]++b0i
theorem tys:tysB Tryz.prog T=true:=by kernel_rfl
theorem mixed:Tryz.prog.follows .mixedOrders=true:=by kernel_rfl
def b3y:Nat->Option Hand|33=>some (.plain b2F)|53=>some (.via gPre b7o)|_=>none
noncomputable def a92:Env:={P:=Tryz.prog,T:=T,keep:=keep,byref:=fun _ _=>none,meth:=fun _ _=>none,tags:=fun g=>has g tagL,argTags:=fun g=>has g argL,quiet:=fun g=>has g a8C,loose:=fun _=>false,ok:=fun g=>has g okL,cut:=cut,b0S:=b0S,a6V:=a6V,sep:=sep,mask:=mask,look:=fun g=>has g b7w,frz:=fun g=>has g b5e,slk:=slk,full:=true,intr:=b3y}
theorem b8x:b0A a92 okL=true:=by kernel_rfl
theorem b5Q:a7L a92:=by
 intro _ _ _ h;cases h
theorem b5c:a5X a92:=⟨b5Q,a8j tys,mixed,a6F (fun _ h=>h) b8x,(fun g h hg=>by simp only[a92,b3y]at hg;first |(cases hg;done) |(split at hg<;>first |(cases hg;done) |(cases hg;exact b4l))),(fun g pre post hg=>by simp only[a92,b3y]at hg;first |(cases hg;done) |(split at hg<;>first |(cases hg;done) |(cases hg;exact a6H)))⟩
end Go.Proofs.YtmippldlhnajkaaGreatDoor
namespace Go.Proofs.YtmippldlhnajkaaGreatDoor.Aw
open Go Go.Vm
structure Flt where
 code:Int
 at_:Int
def c3K (x:Flt):List V:=[.i x.code,.i x.at_]
def b0c:List Flt->List V | []=>[]|x::r=>.i x.code :: .i x.at_::b0c r
theorem c6j:a3o 2 c3K b0c:=⟨fun _=>rfl,rfl,fun _ _=>rfl⟩
structure Typ where
 kind:Int
 name:Str
 n:Int
 args:List Typ
mutual
def Typ.sub:Typ->List V
 |⟨_,_,_,a3⟩=>w9 a3
def w9:List Typ->List V
 | []=>[]
 | x::r=>.i x.kind :: .str x.name :: .i x.n :: .slice .sealed (List.length x.args) (x.sub)::w9 r
end
def c0E (x:Typ):List V:=[.i x.kind,.str x.name,.i x.n,.sl w9 x.args]
theorem b8D:a3o 4 c0E w9:=⟨fun _=>rfl,rfl,fun x r=>by cases x;rfl⟩
structure Nod where
 op:Int
 s:Str
 n:Int
 t:Typ
 ts:List Typ
 l:List Nod
 at_:Int
mutual
def Nod.sub:Nod->List V
 |⟨_,_,_,_,_,a5,_⟩=>C8 a5
def C8:List Nod->List V
 | []=>[]
 | x::r=>.i x.op :: .str x.s :: .i x.n :: .i x.t.kind :: .str x.t.name :: .i x.t.n :: .sl w9 x.t.args :: .sl w9 x.ts :: .slice .sealed (List.length x.l) (x.sub) :: .i x.at_::C8 r
end
def a6f (x:Nod):List V:=(c0 x.op x.s x.n x.t.kind x.t.name x.t.n (.sl w9 x.t.args) (.sl w9 x.ts) (.sl C8 x.l) x.at_)
theorem b8C:a3o 10 a6f C8:=⟨fun _=>rfl,rfl,fun x r=>by cases x;rfl⟩
end Go.Proofs.YtmippldlhnajkaaGreatDoor.Aw
namespace Go.Proofs.YtmippldlhnajkaaGreatDoor.Aw
open Go Go.Vm
def T:List (Nat×Ty):=[(1,⟨.func,1,8,[.nilFunc]⟩),(2,⟨.int .i64,1,8,[.i 0]⟩),(3,⟨.int .i64,1,8,[.i 0]⟩),(4,⟨.bool,1,1,[.bool false]⟩),(5,⟨.int .u8,1,1,[.int .u8 0]⟩),(9,⟨.string,1,16,[.str []]⟩),(22,⟨.slice 24,1,24,[.slice .nil 0 []]⟩),(24,⟨.struct [(3,0),(9,1),(3,2),(22,3)],4,56,[.i 0,.str [],.i 0,.slice .nil 0 []]⟩),(25,⟨.slice 27,1,24,[.slice .nil 0 []]⟩),(27,⟨.struct [(3,0),(9,1),(3,2),(24,3),(22,7),(25,8),(3,9)],10,144,[.i 0,.str [],.i 0,.i 0,.str [],.i 0,.slice .nil 0 [],.slice .nil 0 [],.slice .nil 0 [],.i 0]⟩),(34,⟨.int .i64,1,8,[.i 0]⟩),(36,⟨.struct [(34,0),(3,1)],2,16,[.i 0,.i 0]⟩),(46,⟨.slice 36,1,24,[.slice .nil 0 []]⟩),(54,⟨.slice 5,1,24,[.slice .nil 0 []]⟩),(57,⟨.ptr 60,1,8,[.nilptr]⟩),(58,⟨.slice 9,1,24,[.slice .nil 0 []]⟩),(60,⟨.struct [(58,0)],1,24,[.slice .nil 0 []]⟩),(61,⟨.func,1,8,[.nilFunc]⟩),(63,⟨.iface,1,16,[.nilIface]⟩),(73,⟨.slice 88,1,24,[.slice .nil 0 []]⟩),(85,⟨.func,1,8,[.nilFunc]⟩),(88,⟨.struct [(3,0),(9,1),(3,2),(3,3)],4,40,[.i 0,.str [],.i 0,.i 0]⟩),(90,⟨.ptr 94,1,8,[.nilptr]⟩),(94,⟨.struct [(73,0),(3,1),(3,2)],3,40,[.slice .nil 0 [],.i 0,.i 0]⟩),(99,⟨.map 3 9,1,8,[.opq]⟩),(102,⟨.slice 3,1,24,[.slice .nil 0 []]⟩),(128,⟨.struct [(36,0)],2,16,[.i 0,.i 0]⟩),(137,⟨.func,1,8,[.nilFunc]⟩),(151,⟨.ptr 155,1,8,[.nilptr]⟩),(153,⟨.struct [(9,0),(3,1)],2,24,[.str [],.i 0]⟩),(155,⟨.struct [(153,0),(73,2),(36,3)],5,64,[.str [],.i 0,.slice .nil 0 [],.i 0,.i 0]⟩),(183,⟨.array 24 5,24,24,[.int .u8 0,.int .u8 0,.int .u8 0,.int .u8 0,.int .u8 0,.int .u8 0,.int .u8 0,.int .u8 0,.int .u8 0,.int .u8 0,.int .u8 0,.int .u8 0,.int .u8 0,.int .u8 0,.int .u8 0,.int .u8 0,.int .u8 0,.int .u8 0,.int .u8 0,.int .u8 0,.int .u8 0,.int .u8 0,.int .u8 0,.int .u8 0]⟩),(184,⟨.int .u64,1,8,[.int .u64 0]⟩),(189,⟨.ptr 153,1,8,[.nilptr]⟩),(192,⟨.array 32 9,32,512,[.str [],.str [],.str [],.str [],.str [],.str [],.str [],.str [],.str [],.str [],.str [],.str [],.str [],.str [],.str [],.str [],.str [],.str [],.str [],.str [],.str [],.str [],.str [],.str [],.str [],.str [],.str [],.str [],.str [],.str [],.str [],.str []]⟩),(194,⟨.array 27 9,27,432,[.str [],.str [],.str [],.str [],.str [],.str [],.str [],.str [],.str [],.str [],.str [],.str [],.str [],.str [],.str [],.str [],.str [],.str [],.str [],.str [],.str [],.str [],.str [],.str [],.str [],.str [],.str []]⟩),(234,⟨.slice 250,1,24,[.slice .nil 0 []]⟩),(250,⟨.struct [(58,0),(4,1)],2,32,[.slice .nil 0 [],.bool false]⟩),(254,⟨.int .i64,1,8,[.i 0]⟩)]
def keep:Nat->Nat->List Nat|24,7=>[2,4,6,7,8]|28,13=>[0,48,49,50]|28,21=>[0,69,70,71]|28,37=>[0,118,119,120]|57,3=>[2,3,9,10,11]|60,3=>[1,5,11,12,13]|60,6=>[1,5,7,11,12,13,17,18,19]|63,5=>[0,3,23,24,25]|63,15=>[0,52,53,54]|82,1=>[0,2,8,9,10]|112,4=>[0,3]|118,3=>[0,10,11,12]|144,40=>[0,140,141,142]|158,2=>[0,1,2,7]|162,8=>[0,2,3]|163,4=>[0,3]|169,2=>[0,1,7,8]|180,0=>[0]|189,3=>[0,3,4]|191,5=>[0,3]|193,5=>[0,1,4,5,6]|193,9=>[0,1,4,7]|194,2=>[0,3]|208,2=>[0,1,5]|212,2=>[0,1,5,6]|255,3=>[0,2,6,7,14,15]|255,6=>[0,2,6,7,9,14,15]|267,4=>[0,2,3,4]|277,27=>[0,2,3]|279,10=>[5,6,47,48,49]|_,_=>[]
def cut:Nat->Nat->Bool|_,_=>false
def b0i:List Nat:=[28,30,41,45,51,52,54,55,57,58,59,60,63,64,76,80,82,103,105,108,109,110,111,112,115,118,119,120,144,158,159,161,162,163,164,165,166,167,170,180,181,183,186,188,189,190,191,192,193,194,207,208,211,212,213,214,215,240,253,254,255,266,267,276,277,279]
def b0S:Nat->Nat->Bool|f,_=>has f b0i
def a6V:Nat->Nat->Bool|f,_=>has f b0i
def slk:Nat->Nat->List (Nat×Nat)|_,_=>[]
def sep:Nat->Nat->Option (List Nat×List Nat)|24,3=>some ([0,1,2,3,4],[5,1000002])|51,2=>some ([0,1,2,3,5,4,6,7],[5])|55,12=>some ([0,1,2,3,4,5,6],[30])|55,22=>some ([0,1,2,3,4,5,6],[64])|55,27=>some ([0,1,2,3,4,5,6],[79])|105,3=>some ([0,1,2,3,4,5,6,7,8,9,10,11,12,13],[32,28,24])|108,3=>some ([0,1,2,3,4,5,6,7],[7])|161,5=>some ([0,1,2,3,4,5,6],[15])|161,13=>some ([0,1,2,3,4,5,6],[41])|165,3=>some ([0,1,2,3,4,5,6,7,8,9,10,11],[20,18,14])|193,11=>some ([0,2,3,1,4,5],[7])|215,18=>some ([0,1,2,3,4,5,6,7],[56])|215,37=>some ([0,1,2,3,4,5,6,7],[112])|215,45=>some ([0,1,2,3,4,5,6,7],[144])|255,7=>some ([0,1,2,3,4,5,6,7,8,9,10,11,12,13,14,15],[77,75,72,68])|255,9=>some ([0,1,3,4,5,6,2,7,8,9],[])|267,5=>some ([0,2,3,4,5,1,6,7,8],[4,17])|267,8=>some ([0,1,2,3,4,5,6],[25])|267,12=>some ([0,1,2,3,4,5,6,7],[38,36])|267,14=>some ([0,1,2,3,4,5,6],[48])|277,26=>some ([0,1,2,3,4,5,6,7],[77])|277,28=>some ([0,1,2,3,4,5,6,7],[86])|_,_=>none
def mask:Nat->Nat->List Nat|24,3=>[0,0,2,1,15]|51,2=>[0,0,2,7,15,0,31,127]|55,12=>[0,1,0,4,15,31,63]|55,22=>[0,1,0,4,15,31,63]|55,27=>[0,1,0,4,15,31,63]|105,3=>[0,1,3,7,0,16,48,112,0,496,1023,2047,0,8191]|108,3=>[0,1,0,4,12,31,63,127]|161,5=>[0,1,0,4,15,31,63]|161,13=>[0,1,0,4,15,31,63]|165,3=>[0,1,3,7,0,16,48,112,255,511,0,2047]|193,11=>[0,1,0,4,15,31]|215,18=>[0,1,0,4,12,31,63,127]|215,37=>[0,1,0,4,12,31,63,127]|215,45=>[0,1,0,4,12,31,63,127]|255,7=>[0,1,3,7,0,16,48,112,255,511,1023,0,2048,8191,0,32767]|255,9=>[0,0,2,0,0,16,56,127,0,511]|267,5=>[0,1,0,4,0,16,63,0,255]|267,8=>[0,1,0,4,15,31,63]|267,12=>[0,1,0,4,0,16,63,127]|267,14=>[0,1,0,4,15,31,63]|277,26=>[0,1,0,4,12,31,63,127]|277,28=>[0,1,0,4,12,31,63,127]|_,_=>[]
def okL:List Nat:=[7,24,28,30,41,45,51,52,54,55,57,58,59,60,63,64,76,80,82,84,103,105,108,109,110,111,112,115,116,118,119,120,144,148,158,159,161,162,163,164,165,166,167,169,170,178,180,181,183,185,186,187,188,189,190,191,192,193,194,201,206,207,208,210,211,212,213,214,215,240,253,254,255,266,267,276,277,279]
def b7w:List Nat:=[52]
def a8C:List Nat:=[7,9,24,84,116,148,169,178,185,187,201,206,210]
def b5e:List Nat:=[]
def tagL:List Nat:=[]++b0i
def argL:List Nat:=[]++b0i
theorem tys:tysB Tryz.prog T=true:=by kernel_rfl
theorem mixed:Tryz.prog.follows .mixedOrders=true:=by kernel_rfl
def b3y:Nat->Option Hand|33=>some (.plain b2F)|53=>some (.via gPre b7o)|_=>none
noncomputable def a92:Env:={P:=Tryz.prog,T:=T,keep:=keep,byref:=fun _ _=>none,meth:=fun _ _=>none,tags:=fun g=>has g tagL,argTags:=fun g=>has g argL,quiet:=fun g=>has g a8C,loose:=fun _=>false,ok:=fun g=>has g okL,cut:=cut,b0S:=b0S,a6V:=a6V,sep:=sep,mask:=mask,look:=fun g=>has g b7w,frz:=fun g=>has g b5e,slk:=slk,full:=true,intr:=b3y}
theorem b8x:b0A a92 okL=true:=by kernel_rfl
theorem b5Q:a7L a92:=by
 intro _ _ _ h;cases h
theorem b5c:a5X a92:=⟨b5Q,a8j tys,mixed,a6F (fun _ h=>h) b8x,(fun g h hg=>by simp only[a92,b3y]at hg;first |(cases hg;done) |(split at hg<;>first |(cases hg;done) |(cases hg;exact b4l))),(fun g pre post hg=>by simp only[a92,b3y]at hg;first |(cases hg;done) |(split at hg<;>first |(cases hg;done) |(cases hg;exact a6H)))⟩
end Go.Proofs.YtmippldlhnajkaaGreatDoor.Aw
namespace Go.Vm
open Go
variable {env:Env}
def b63:Rho:=⟨fun _=>none,fun _ _=>none⟩
def b3B:Lab:=fun _ _=>none
theorem c8D (ρ:Rho):b63.le ρ:=⟨fun _ _ h=>(by cases h),fun _ _ _ h=>(by cases h)⟩
def b7Z (B:Nat):Rho:=⟨fun k=>if k=0 then some (some (B,0),none)else none,fun k n=>if k=1/\n=0 then some (none,0)else none⟩
def a4y (B:Nat):Lab:=fun b o=>if b=B/\o=0 then some (some 0)else none
def hp1:Hp:=[(0,.row [.slice (.tag 1) 0 []]),(1,.tip 0 0)]
theorem old_rel {w0 w:World}{B:Nat}(hB:w0.heap.size<=B)(hk:∀b,b<w0.heap.size->w.heap[b]? = w0.heap[b]?){v:V}{x:Value}(h:Rel b63 b3B w0 v x):Rel (b7Z B) (a4y B) w v x:=by
 have h1:Rel b63 (a4y B) w v x:=by
  refine h.carry fun b o x h=>?_;have hb:=a0F h.cell;refine⟨?_,?_⟩
  ·simp only[a4y];rw[if_neg (by omega)]
  ·simp only[cellAt,World.cell?,hk b hb];exact h.cell
 exact h1.ext (Ext.refl _ _) (c8D _)
theorem sim1 {w:World}{B:Nat}(hkp:KpW w)(hkB:kpG<B)(hc:w.cell? ⟨B,0,none⟩=some (.slice none 0 0))(hz:w.frozen? ⟨B,0,none⟩=false):Sim (b7Z B) (a4y B) hp1 w where
 kp:=⟨hkp,fun o k h=>by
  simp only[a4y]at h;rw[if_neg (by omega)]at h;cases h⟩
 row:=fun k cs h=>by
  have:k=0/\cs=[.slice (.tag 1) 0 []]:=by
   simp only[hp1,hget]at h;split at h
   ·rename_i hb;cases h;exact⟨(Nat.eq_of_beq_eq_true hb).symm,rfl⟩
   ·split at h
    ·cases h
    ·cases h
  obtain⟨rfl,rfl⟩:=this;refine⟨B,0,[.slice none 0 0],by simp[b7Z],?_,fun i x hx=>?_⟩
  ·refine D9.2 ⟨_,_,rfl,.slice _ 0 [] [] 0 0 none 0 rfl (Nat.le_refl _) (fun h=>by omega) (fun _=>rfl) (fun i x h=>by simp at h) (fun i v x h=>by simp at h) (by simp[b7Z]) (by simp) (by simp),⟨rfl,by simp⟩⟩
  ·match i,hx with
   | 0,hx =>
    cases hx;exact⟨⟨by simp[a4y],hz,_,hc⟩,hc⟩
   | i+1,hx=>simp at hx
 grow:=fun k e cs h=>by
  simp only[hp1,hget]at h;split at h
  ·cases h
  ·split at h<;>cases h
 tip:=fun k e n h=>by
  have:k=1/\e=0/\n=0:=by
   simp only[hp1,hget]at h;split at h
   ·cases h
   ·split at h
    ·rename_i hb;cases h;exact⟨(Nat.eq_of_beq_eq_true hb).symm,rfl,rfl⟩
    ·cases h
  obtain⟨rfl,rfl,rfl⟩:=this;exact⟨none,0,by simp[b7Z],Nat.le_refl _,fun _=>rfl,fun _=>rfl,fun a h=>by cases h⟩
 mp:=fun k es h=>by
  simp only[hp1,hget]at h;split at h
  ·cases h
  ·split at h<;>cases h
 hdom:=fun k n x h=>by
  simp only[b7Z]at h;split at h
  ·rename_i hk;obtain⟨rfl,rfl⟩:=hk;exact⟨0,0,rfl,Nat.le_refl _⟩
  ·cases h
 adom:=fun k x h=>by
  simp only[b7Z]at h;split at h
  ·rename_i hk;subst hk;simp[hp1,hget]
  ·cases h
 ldom:=fun b o k h=>by
  simp only[a4y]at h;split at h
  ·rename_i hb;obtain⟨rfl,rfl⟩:=hb;exact a0F hc
  ·cases h
theorem b6s {w w':World}{B:Nat}{lab':Lab}(E:Ext (a4y B) w lab' w'):Wrote B w w' :=
 ⟨E.size,E.os,E.tape,E.output,fun b hb hn=>E.blk b hb (fun o k h=>by
  simp only[a4y]at h;rw[if_neg (fun h=>hn h.1)]at h;cases h)⟩
theorem c9U (hE:a5X env){g1 g2:Nat}{c:V}{H1 H2:Hp}{s:List UInt8}
  (h1:E env (.call g1 [.ptr 0 0,c]) hp1=some (.ret (.tuple []) H1)) (h2:E env (.call g2 [.ptr 0 0]) H1=some (.ret (.str s) H2))
  {w0 w:World} {B:Nat} (hkp:KpW w0) (hkw:w0.heap.size<=w.heap.size) (hB:w0.heap.size<=B) (hk:∀b,b<w0.heap.size->w.heap[b]? = w0.heap[b]?) (hc:w.cell? ⟨B,0,none⟩=some (.slice none 0 0)) (hz:w.frozen? ⟨B,0,none⟩=false) {x:Value} (hx:Rel b63 b3B w0 c x) :
  Calls env.P g1 #[.pointer (some ⟨B,0,none⟩),x] w fun e w1=>e=.returned (.tuple #[])/\Wrote B w w1 /\
   Calls env.P g2 #[.pointer (some ⟨B,0,none⟩)] w1 fun e w2=>e=.returned (.string ⟨⟨s⟩⟩)/\Wrote B w w2:=by
 obtain⟨k1,hk1⟩:=(a1P env).at_ _ _ _ h1;obtain⟨k2,hk2⟩:=(a1P env).at_ _ _ _ h2;have hS:=sim1 ⟨Nat.lt_of_lt_of_le hkp.1 hkw,by rw[hk kpG hkp.1];exact hkp.2⟩ (Nat.lt_of_lt_of_le hkp.1 hB) hc hz;have hp:Rel (b7Z B) (a4y B) w (.ptr 0 0) (.pointer (some ⟨B,0+0,none⟩)):=.ptr 0 0 B 0 none (by simp[b7Z]);have hL:J5 (b7Z B) (a4y B) w [.ptr 0 0,c] [.pointer (some ⟨B,0,none⟩),x]:=D9.2 ⟨_,_,rfl,hp,D9.2 ⟨_,_,rfl,old_rel hB hk hx,⟨rfl,by simp⟩⟩⟩;have C1:=(b5u hE k1).1.call g1 _ _ _ hk1 (b7Z B) (a4y B) w _ ⟨rfl,rfl,trivial⟩ hS hL;refine C1.mono fun e w1 hP=>?_;cases e with
 | returned v =>
  obtain⟨ρ',lab',s1,s2,s3,s4,s5,s6⟩:=hP;have hv:v=.tuple #[]:=by
   cases s4 with
   | tuple _ zs h1 h2 =>
    have:zs=[]:=by simpa using h1
    subst this;rfl
  refine⟨by rw[hv],b6s s2,?_⟩;have ha:ρ'.at_ 0=some (some (B,0),none):=s3.at_ 0 _ (by decide) (by simp[b7Z]);have hp2:Rel ρ' lab' w1 (.ptr 0 0) (.pointer (some ⟨B,0+0,none⟩)):=.ptr 0 0 B 0 none ha;have hL2:J5 ρ' lab' w1 [.ptr 0 0] [.pointer (some ⟨B,0,none⟩)]:=D9.2 ⟨_,_,rfl,hp2,⟨rfl,by simp⟩⟩;have C2:=(b5u hE k2).1.call g2 _ _ _ hk2 ρ' lab' w1 _ s5 s1 hL2;refine C2.mono fun e w2 hP=>?_;cases e with
  | returned v2 =>
   obtain⟨ρ2,lab2,t1,t2,t3,t4,t5,t6⟩:=hP;have hv2:v2=.string ⟨⟨s⟩⟩:=by cases t4;rfl
   exact⟨by rw[hv2],b6s (s2.trans t2)⟩
  | panicked ch=>exact hP.elim
  | outgrown=>exact hP.elim
 | panicked ch=>exact hP.elim
 | outgrown=>exact hP.elim
end Go.Vm
