/- Texts of ParseRecovers, joined. -/
import Derived.Test.YtjhfloacokgdiaaGreatDoorParseRecoversJ16
set_option maxRecDepth 100000
set_option maxHeartbeats 20000000
set_option linter.all false
namespace Go.Proofs.YtjhfloacokgdiaaGreatDoor
open Go Go.Vm
attribute [local irreducible] Go.Vm.Ev Go.Vm.Os Go.Vm.OsP Go.Vm.Lp Go.Vm.E8 Go.Vm.J5 Go.Vm.J7 Go.Vm.E
abbrev b8u (p:Option (Bool)):Prop:=OkF env p 8 [] [] (b56)
instance law02_awake_I {n:Nat}:b8u (a4G n):=⟨fun{r} h=>by
 unfold a4G at h;refine D5 rfl Tryz.func8 rfl rfl ?_;exact blk⟩
abbrev b1s (a1C:Str)(p:Option (Bool)):Prop:=OkF env p 3 [.str a1C] [] (a7x a1C)
instance b36 {n:Nat}{a1C:Str}:b1s a1C (a5V n a1C):=⟨fun{r} h=>by
 unfold a5V at h;refine D5 rfl Tryz.func3 rfl rfl ?_;let kr:=fun r:Bool=>a2e env 3 0 Tryz.f3.results.toList (a7x a1C r);let jn1:Jn 30012 (Bool):=⟨fun fr H z=>([(3,.ptr 0 0),(6,.ptr 1 0),(45,.bool z)],[(0,oH H 256),(1,oH H 448)])⟩
 let jn2:Jn 19 (Unit):=⟨fun fr H z=>([],[])⟩
 let jl1:Jn 13 (Int×Nod×Nod):=⟨fun fr H z=>([(3,.ptr 0 0),(6,.ptr 1 0),(8,.i z.1)],[(0,.row (c0 z.2.1.op z.2.1.s z.2.1.n z.2.1.t.kind z.2.1.t.name z.2.1.t.n (.sl D8 z.2.1.t.args) (.sl D8 z.2.1.ts) (.sl D9 z.2.1.l) z.2.1.at_)),(1,.row (c0 z.2.2.op z.2.2.s z.2.2.n z.2.2.t.kind z.2.2.t.name z.2.2.t.n (.sl D8 z.2.2.t.args) (.sl D8 z.2.2.ts) (.sl D9 z.2.2.l) z.2.2.at_))])⟩
 let jn3:Jn 30018 (Bool):=⟨fun fr H z=>([(3,.ptr 0 0),(6,.ptr 1 0),(8,(lk 8 fr)),(100,.bool z)],[(0,oH H 0),(1,oH H 1)])⟩
 exact blk⟩
end Go.Proofs.YtjhfloacokgdiaaGreatDoor
