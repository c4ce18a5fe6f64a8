/- Texts of ParseTwice, joined. -/
import Derived.Test.YtjhfloacokgdiaaGreatDoorParseTwiceJ17
set_option maxRecDepth 100000
set_option maxHeartbeats 20000000
set_option linter.all false
namespace Go.Proofs.YtjhfloacokgdiaaGreatDoor
open Go Go.Vm
attribute [local irreducible] Go.Vm.Ev Go.Vm.Os Go.Vm.OsP Go.Vm.Lp Go.Vm.E8 Go.Vm.J5 Go.Vm.J7 Go.Vm.E
abbrev b8u (p:Option (Bool)):Prop:=OkF env p 8 [] [] (b56)
instance law02_awake_I {n:Nat}:b8u (a4G n):=⟨fun{r} h=>by
 unfold a4G at h;refine D5 rfl Tryz.func8 rfl rfl ?_;exact blk⟩
abbrev b36 (a1C:Str)(p:Option (Bool)):Prop:=OkF env p 4 [.str a1C] [] (a7x a1C)
instance b37 {n:Nat}{a1C:Str}:b36 a1C (a5a n a1C):=⟨fun{r} h=>by
 unfold a5a at h;refine D5 rfl Tryz.func4 rfl rfl ?_;let kr:=fun r:Bool=>a2e env 4 0 Tryz.f4.results.toList (a7x a1C r);let jn1:Jn 30007 (Bool):=⟨fun fr H z=>([(3,.ptr 0 0),(5,(lk 17 fr)),(25,.bool z)],[(0,oH H 256)])⟩
 exact blk⟩
end Go.Proofs.YtjhfloacokgdiaaGreatDoor
