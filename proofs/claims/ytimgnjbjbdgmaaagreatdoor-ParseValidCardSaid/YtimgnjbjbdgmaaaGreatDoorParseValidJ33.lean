/- Texts of ParseValid, joined. -/
import Derived.Test.YtimgnjbjbdgmaaaGreatDoorParseValidJ32
import Derived.KernelRfl
import Derived.ChangeArms
import Derived.DataReads
import Derived.ChangeStays
import Derived.ReadAgain
import Derived.SizedLaws
set_option maxRecDepth 100000
set_option maxHeartbeats 20000000
set_option linter.all false
namespace Go.Proofs.YtimgnjbjbdgmaaaGreatDoor.Pr
open Go Go.Vm
variable {Φ:p8}
attribute [local irreducible] Go.Vm.Ev Go.Vm.Os Go.Vm.OsP Go.Vm.Lp Go.Vm.G8 Go.Vm.M7 Go.Vm.M9 Go.Vm.E
class p8.Ok (Φ:p8):Prop where
 Z6:∀{l1 n2},OkF env (Φ.Z6 l1 n2) 132 [.st 0 clS l1,.agg (cN n2)] (hT l1) (a6H)
 R8:∀{l1 n2},OkF env (Φ.R8 l1 n2) 156 [.st 0 clS l1,.agg (cN n2)] (hT l1) (a6H)
 a4c:∀{l1 X5},OkF env (Φ.a4c l1 X5) 175 [.st 0 clS l1,.sl D9 X5] (hT l1) (a6H)
 a5q:∀{l1 n2},OkF env (Φ.a5q l1 n2) 176 [.st 0 clS l1,.agg (cN n2)] (hT l1) (a6H)
 a3U:∀{l1 n2 around3},OkF env (Φ.a3U l1 n2 around3) 196 [.st 0 clS l1,.agg (cN n2),.bool around3] (hT l1) (a6H)
 a5p:∀{l1 n2},OkF env (Φ.a5p l1 n2) 157 [.st 0 clS l1,.agg (cN n2)] (hT l1) (a6H)
attribute [instance] p8.Ok.Z6 p8.Ok.R8 p8.Ok.a4c p8.Ok.a5q p8.Ok.a3U p8.Ok.a5p
theorem b6H (n:Nat) [hΦ:p8.Ok Φ] {l1 n2}:OkF env (a3f n Φ l1 n2) 132 [.st 0 clS l1,.agg (cN n2)] (hT l1) (a6H):=mkF Tryz.func132 rfl (by
 obtain⟨b7k,b8J,b8K,⟨b8L,b8M,b8N,b8O⟩,b8P,b8Q,b8R⟩:=n2;intro kr r h;unfold a3f at h;let jn1:Jn 44 Unit:=jJ fun f H z=>([(0,.st 0 clS l1),(3,.ptr 1 0)],[tpl 1 l1,oH H 256])
 let jn2:Jn 9 (List Str):=jJ fun f H z=>([(0,.st 0 clS z)],[tpl 1 z])
 let jl1:Jn 5 (List Str×Int):=jJ fun f H z=>([(0,.st 0 clS z.1),(3,.ptr 1 0),(5,.i z.2)],[tpl 1 z.1,oH H 256])
 let jn3:Jn 14 (List Str):=jJ fun f H z=>([(0,.st 0 clS z),(3,.ptr 1 0)],[tpl 1 z,oH H 256])
 let jn4:Jn 18 (List Str):=jJ fun f H z=>([(0,.st 0 clS z),(3,.ptr 1 0)],[tpl 1 z,oH H 1])
 let jn5:Jn 23 (List Str):=jJ fun f H z=>([(0,.st 0 clS z)],[tpl 1 z])
 let jl2:Jn 18 (List Str×Int):=jJ fun f H z=>([(0,.st 0 clS z.1),(3,.ptr 1 0),(6,.i z.2)],[tpl 1 z.1,oH H 1])
 let jn6:Jn 31 (List Str):=jJ fun f H z=>([(0,.st 0 clS z)],[tpl 1 z])
 let jl3:Jn 25 (List Str×Int):=jJ fun f H z=>([(0,.st 0 clS z.1),(3,.ptr 1 0),(7,.i z.2)],[tpl 1 z.1,oH H 256])
 let jn7:Jn 30 (List Str):=jJ fun f H z=>([(0,.st 0 clS z),(3,.ptr 1 0),(7,lk 7 f)],[tpl 1 z,oH H 1])
 let jn8:Jn 30035 Bool:=jJ fun f H z=>([(0,.st 0 clS l1),(3,.ptr 1 0),(104,.bool z)],[tpl 1 l1,oH H 256])
 let jn9:Jn 37 (List Str):=jJ fun f H z=>([(0,.st 0 clS z),(3,.ptr 1 0)],[tpl 1 z,oH H 1])
 let jn10:Jn 39 (List Str):=jJ fun f H z=>([(0,.st 0 clS z),(3,.ptr 1 0)],[tpl 1 z,oH H 1])
 let jn11:Jn 43 (List Str):=jJ fun f H z=>([(0,.st 0 clS z)],[tpl 1 z])
 let jl4:Jn 39 (List Str×Int):=jJ fun f H z=>([(0,.st 0 clS z.1),(3,.ptr 1 0),(8,.i z.2)],[tpl 1 z.1,oH H 1])
 exact blk)
theorem b6G (n:Nat) [hΦ:p8.Ok Φ] {l1 n2}:OkF env (a4l n Φ l1 n2) 156 [.st 0 clS l1,.agg (cN n2)] (hT l1) (a6H):=mkF Tryz.func156 rfl (by
 obtain⟨b7k,b8J,b8K,⟨b8L,b8M,b8N,b8O⟩,b8P,b8Q,b8R⟩:=n2;intro kr r h;unfold a4l at h;let jn1:Jn 45 Unit:=jJ fun f H z=>([(0,.st 0 clS l1),(3,.ptr 1 0)],[tpl 1 l1,oH H 256])
 let jn2:Jn 25 (List Str):=jJ fun f H z=>([(0,.st 0 clS z)],[tpl 1 z])
 let jl1:Jn 14 (List Str×Int):=jJ fun f H z=>([(0,.st 0 clS z.1),(3,.ptr 1 0),(5,.i z.2)],[tpl 1 z.1,oH H 256])
 let jn3:Jn 16 (List Str):=jJ fun f H z=>([(0,.st 0 clS z),(3,.ptr 1 0),(5,lk 5 f)],[tpl 1 z,oH H 1])
 let jn4:Jn 22 Str:=jJ fun f H z=>([(0,ow (.tag 0) (lk 0 f)),(3,.ptr 1 0),(5,lk 5 f),(6,.str z),(7,.str [34])],[oH H 0,oH H 1])
 let jn5:Jn 24 Str:=jJ fun f H z=>([(0,ow (.tag 0) (lk 0 f)),(3,.ptr 1 0),(5,lk 5 f),(6,lk 6 f),(7,.str z)],[oH H 0,oH H 1])
 let jn6:Jn 35 (List Str):=jJ fun f H z=>([(0,.st 0 clS z)],[tpl 1 z])
 let jn7:Jn 44 (List Str):=jJ fun f H z=>([(0,.st 0 clS z)],[tpl 1 z])
 let jl2:Jn 38 (List Str×Int):=jJ fun f H z=>([(0,.st 0 clS z.1),(3,.ptr 1 0),(8,.i z.2)],[tpl 1 z.1,oH H 256])
 let jn8:Jn 43 (List Str):=jJ fun f H z=>([(0,.st 0 clS z),(3,.ptr 1 0),(8,lk 8 f)],[tpl 1 z,oH H 1])
 let ls:Nat->List Nat:=fun n=>cond (Nat.beq n 28) [256] (cond (Nat.beq n 26) [256] ([]));exact blk)
theorem b7o (n:Nat) [hΦ:p8.Ok Φ] {l1 X5}:OkF env (a6M n Φ l1 X5) 175 [.st 0 clS l1,.sl D9 X5] (hT l1) (a6H):=mkF Tryz.func175 rfl (by
 intro kr r h;unfold a6M at h;let jn1:Jn 9 (List Str):=jJ fun f H z=>([(0,.st 0 clS z)],[tpl 1 z])
 let jl1:Jn 3 (List Str×Int):=jJ fun f H z=>([(0,.st 0 clS z.1),(1,.sl D9 X5),(5,.i z.2)],[tpl 1 z.1])
 let jn2:Jn 8 (List Str):=jJ fun f H z=>([(0,.st 0 clS z),(1,.sl D9 X5),(5,lk 5 f)],[tpl 1 z])
 exact blk)
theorem b4U (n:Nat) [hΦ:p8.Ok Φ] {l1 n2}:OkF env (a5e n Φ l1 n2) 176 [.st 0 clS l1,.agg (cN n2)] (hT l1) (a6H):=mkF Tryz.func176 rfl (by
 obtain⟨b7k,b8J,b8K,⟨b8L,b8M,b8N,b8O⟩,b8P,b8Q,b8R⟩:=n2;intro kr r h;unfold a5e at h;let jn1:Jn 40 Unit:=jJ fun f H z=>([(0,.st 0 clS l1)],[tpl 1 l1])
 let jn2:Jn 25 (List Str):=jJ fun f H z=>([(0,.st 0 clS z)],[tpl 1 z])
 let jn3:Jn 39 (List Str):=jJ fun f H z=>([(0,.st 0 clS z)],[tpl 1 z])
 let jl1:Jn 31 (List Str×Int):=jJ fun f H z=>([(0,.st 0 clS z.1),(3,.ptr 1 0),(5,.i z.2)],[tpl 1 z.1,oH H 256])
 let jn4:Jn 33 (List Str×Int):=jJ fun f H z=>([(0,.st 0 clS z.1),(3,.ptr 1 0),(5,.i z.2)],[tpl 1 z.1,oH H 1])
 let jl2:Jn 35 (List Str×Int×Int):=jJ fun f H z=>([(0,.st 0 clS z.1),(3,.ptr 1 0),(5,.i z.2.1),(6,.i z.2.2)],[tpl 1 z.1,oH H 1])
 let ls:Nat->List Nat:=fun n=>cond (Nat.beq n 17) [256] (cond (Nat.beq n 15) [256] (cond (Nat.beq n 13) [256] ([])));exact blk)
theorem b5O (n:Nat) [hΦ:p8.Ok Φ] {l1 n2 around3}:OkF env (a5H n Φ l1 n2 around3) 196 [.st 0 clS l1,.agg (cN n2),.bool around3] (hT l1) (a6H):=mkF Tryz.func196 rfl (by
 obtain⟨b7k,b8J,b8K,⟨b8L,b8M,b8N,b8O⟩,b8P,b8Q,b8R⟩:=n2;intro kr r h;unfold a5H at h;exact blk)
theorem b4T (n:Nat) [hΦ:p8.Ok Φ] {l1 n2}:OkF env (a5d n Φ l1 n2) 157 [.st 0 clS l1,.agg (cN n2)] (hT l1) (a6H):=mkF Tryz.func157 rfl (by
 obtain⟨b7k,b8J,b8K,⟨b8L,b8M,b8N,b8O⟩,b8P,b8Q,b8R⟩:=n2;intro kr r h;unfold a5d at h;let jn1:Jn 43 (List Str):=jJ fun f H z=>([(0,.st 0 clS z)],[tpl 1 z])
 let jn2:Jn 30005 Bool:=jJ fun f H z=>([(0,.st 0 clS l1),(3,.ptr 1 0),(10,.i b7k),(11,.bool z)],[tpl 1 l1,oH H 256])
 let jn3:Jn 8 (List Str):=jJ fun f H z=>([(0,.st 0 clS z),(3,.ptr 1 0)],[tpl 1 z,oH H 1])
 let jl1:Jn 8 (List Str×Int):=jJ fun f H z=>([(0,.st 0 clS z.1),(3,.ptr 1 0),(5,.i z.2)],[tpl 1 z.1,oH H 1])
 let jn4:Jn 10 (List Str):=jJ fun f H z=>([(0,.st 0 clS z),(3,.ptr 1 0),(5,lk 5 f)],[tpl 1 z,oH H 1])
 let jn5:Jn 15 (List Str):=jJ fun f H z=>([(0,.st 0 clS z),(3,.ptr 1 0),(5,lk 5 f)],[tpl 1 z,oH H 1])
 let jn6:Jn 28 (List Str):=jJ fun f H z=>([(0,.st 0 clS z)],[tpl 1 z])
 let jl2:Jn 18 (List Str×Int):=jJ fun f H z=>([(0,.st 0 clS z.1),(3,.ptr 1 0),(6,.i z.2)],[tpl 1 z.1,oH H 1])
 let jn7:Jn 20 (List Str):=jJ fun f H z=>([(0,.st 0 clS z),(3,.ptr 1 0),(6,lk 6 f)],[tpl 1 z,oH H 1])
 let jl3:Jn 31 (List Str×Int):=jJ fun f H z=>([(0,.st 0 clS z.1),(3,.ptr 1 0),(7,.i z.2)],[tpl 1 z.1,oH H 1])
 let jn8:Jn 36 (List Str):=jJ fun f H z=>([(0,.st 0 clS z),(3,.ptr 1 0),(7,lk 7 f)],[tpl 1 z,oH H 1])
 let jl4:Jn 39 (List Str×Int):=jJ fun f H z=>([(0,.st 0 clS z.1),(3,.ptr 1 0),(8,.i z.2)],[tpl 1 z.1,oH H 1])
 exact blk)
theorem p8.ok:∀n,p8.Ok (p8.fs n)
 | 0=>⟨okN,okN,okN,okN,okN,okN⟩
 | n+1=>have:=p8.ok n;⟨b6H n,b6G n,b7o n,b4U n,b5O n,b4T n⟩
instance {n:Nat}:p8.Ok (p8.fs n):=p8.ok n
instance c9f {n l1 n2}:OkF env (a5a n l1 n2) 133 [.st 0 clS l1,.agg (cN n2)] (hT l1) (a6H):=mkF Tryz.func133 rfl (by
 obtain⟨b7k,b8J,b8K,⟨b8L,b8M,b8N,b8O⟩,b8P,b8Q,b8R⟩:=n2;intro kr r h;unfold a5a at h;let jn1:Jn 9 (List Str):=jJ fun f H z=>([(0,.st 0 clS z)],[tpl 1 z])
 let jl1:Jn 2 (List Str×Int):=jJ fun f H z=>([(0,.st 0 clS z.1),(3,.ptr 1 0),(5,.i z.2)],[tpl 1 z.1,oH H 256])
 let jn2:Jn 8 (List Str):=jJ fun f H z=>([(0,.st 0 clS z),(3,.ptr 1 0),(5,lk 5 f)],[tpl 1 z,oH H 1])
 exact blk)
instance c9g {n l1 n2}:OkF env (a2L n l1 n2) 80 [.st 0 clS l1,.agg (cN n2)] (hT l1) (a6H):=mkF Tryz.func80 rfl (by
 obtain⟨b7k,b8J,b8K,⟨b8L,b8M,b8N,b8O⟩,b8P,b8Q,b8R⟩:=n2;intro kr r h;unfold a2L at h;let jn1:Jn 11 (List Str):=jJ fun f H z=>([(0,.st 0 clS z),(5,ow .sealed (lk 9 f))],[tpl 1 z])
 let jl1:Jn 3 (List Str×Int):=jJ fun f H z=>([(0,.st 0 clS z.1),(5,ow .sealed (lk 9 f)),(6,.i z.2)],[tpl 1 z.1])
 let jn2:Jn 9 (List Str):=jJ fun f H z=>([(0,.st 0 clS z),(5,ow .sealed (lk 5 f)),(6,lk 6 f)],[tpl 1 z])
 let jn3:Jn 13 (List Str):=jJ fun f H z=>([(0,.st 0 clS z)],[tpl 1 z])
 exact blk)
instance c8K {n l1 n2}:OkF env (a1B n l1 n2) 79 [.st 0 clS l1,.agg (cN n2)] (hT l1) (a6H):=mkF Tryz.func79 rfl (by
 obtain⟨b7k,b8J,b8K,⟨b8L,b8M,b8N,b8O⟩,b8P,b8Q,b8R⟩:=n2;intro kr r h;unfold a1B at h;let jn1:Jn 12 (List Str):=jJ fun f H z=>([(0,.st 0 clS z),(3,.ptr 1 0)],[tpl 1 z,oH H 256])
 let jl1:Jn 6 (List Str×Int):=jJ fun f H z=>([(0,.st 0 clS z.1),(3,.ptr 1 0),(5,ow .sealed (lk 22 f)),(6,.i z.2)],[tpl 1 z.1,oH H 256])
 let jn2:Jn 19 (List Str):=jJ fun f H z=>([(0,.st 0 clS z)],[tpl 1 z])
 let jl2:Jn 15 (List Str×Int):=jJ fun f H z=>([(0,.st 0 clS z.1),(7,ow .sealed (lk 51 f)),(8,.i z.2)],[tpl 1 z.1])
 exact blk)
instance ref02_member_I {n l1 c2}:OkF env (a2n n l1 c2) 81 [.st 0 clS l1,.agg (c0 c2.op c2.s c2.n c2.t.kind c2.t.name c2.t.n (.sl H7 c2.t.args) (.sl H7 c2.ts) (.sl D9 c2.l) c2.at_)] (hT l1) (a6H):=mkF Tryz.func81 rfl (by
 obtain⟨c2_0,c2_1,c2_2,⟨c2_3,c2_4,c2_5,c2_6⟩,c2_7,c2_8,c2_9⟩:=c2;intro kr r h;unfold a2n at h;let jn1:Jn 44 Unit:=jJ fun f H z=>([(0,.st 0 clS l1)],[tpl 1 l1])
 let jn2:Jn 7 (List Str):=jJ fun f H z=>([(0,.st 0 clS z),(3,.ptr 1 0)],[tpl 1 z,oH H 256])
 let jn3:Jn 16 (List Str):=jJ fun f H z=>([(0,.st 0 clS z)],[tpl 1 z])
 let jl1:Jn 12 (List Str×Int):=jJ fun f H z=>([(0,.st 0 clS z.1),(3,.ptr 1 0),(5,.i z.2)],[tpl 1 z.1,oH H 256])
 let jn4:Jn 20 (List Str):=jJ fun f H z=>([(0,.st 0 clS z),(3,.ptr 1 0)],[tpl 1 z,oH H 256])
 let jn5:Jn 28 (List Str):=jJ fun f H z=>([(0,.st 0 clS z),(3,.ptr 1 0)],[tpl 1 z,oH H 1])
 let jl2:Jn 21 (List Str×Int):=jJ fun f H z=>([(0,.st 0 clS z.1),(3,.ptr 1 0),(6,.i z.2)],[tpl 1 z.1,oH H 1])
 let jn6:Jn 27 (List Str):=jJ fun f H z=>([(0,.st 0 clS z),(3,.ptr 1 0),(6,lk 6 f)],[tpl 1 z,oH H 1])
 let jn7:Jn 30 (List Str):=jJ fun f H z=>([(0,.st 0 clS z)],[tpl 1 z])
 let jn8:Jn 43 (List Str):=jJ fun f H z=>([(0,.st 0 clS z)],[tpl 1 z])
 exact blk)
instance b6F {n l1 n2}:OkF env (a2g n l1 n2) 39 [.st 0 clS l1,.agg (cN n2)] (hT l1) (encF9):=mkF Tryz.func39 rfl (by
 obtain⟨b7k,b8J,b8K,⟨b8L,b8M,b8N,b8O⟩,b8P,b8Q,b8R⟩:=n2;intro kr r h;unfold a2g at h;let jn1:Jn 4 (List Str):=jJ fun f H z=>([(0,.st 0 clS z),(3,.ptr 1 0)],[tpl 1 z,oH H 256])
 let jn2:Jn 30003 Bool:=jJ fun f H z=>([(0,.st 0 clS l1),(3,.ptr 1 0),(14,.bool z)],[tpl 1 l1,oH H 256])
 let jn3:Jn 6 (List Str):=jJ fun f H z=>([(0,.st 0 clS z),(3,.ptr 1 0)],[tpl 1 z,oH H 1])
 let jn4:Jn 30005 Bool:=jJ fun f H z=>([(0,ow (.tag 0) (lk 0 f)),(3,.ptr 1 0),(31,.bool z)],[oH H 0,oH H 1])
 let jn5:Jn 22 (List Str):=jJ fun f H z=>([(0,.st 0 clS z),(3,.ptr 1 0)],[tpl 1 z,oH H 1])
 let jn6:Jn 28 (List Str):=jJ fun f H z=>([(0,.st 0 clS z)],[tpl 1 z])
 let jl1:Jn 24 (List Str×Int):=jJ fun f H z=>([(0,.st 0 clS z.1),(3,.ptr 1 0),(5,.i z.2)],[tpl 1 z.1,oH H 1])
 exact blk)
end Go.Proofs.YtimgnjbjbdgmaaaGreatDoor.Pr
namespace Go.Proofs.YtimgnjbjbdgmaaaGreatDoor
open Go Go.Vm Pr
variable {ws:List Str} {p:List Str->Option (List Str)} {n:Nat} {c:Nod}
theorem tw_run {c:Nat}(h:TW c p)(hc:c<=100000000000):∃u,p []=some u/\wt u<=c:=by
 obtain⟨a,b,e,_,hq⟩:=h [] (by simp only[wt];omega) (List Str) Unit (fun a _=>wt a<=c) some (some ()) (fun u hu=>⟨u,(),rfl,rfl,hu⟩);exact⟨a,by rw[<-e];cases p []<;>rfl,hq⟩
theorem sw_run {c b:Nat}{q:List Str->Option (List Str)}(h:SW c b p q)(hc:c<=400000000000):∃u,p []=some u/\q []=some u/\b<=wt u:=by
 obtain⟨a,a',e,e',hq,hb⟩:=h [] (by simp only[List.length_nil];omega) (List Str) (List Str) (fun a a'=>a'=a/\b<=wt a) some some (fun u _ hu=>⟨u,u,rfl,rfl,rfl,hu⟩);subst hq;exact⟨a',by rw[<-e];cases p []<;>rfl,by rw[<-e'];cases q []<;>rfl,hb⟩
theorem jt_wt:∀r:List Str,(Lib.joinTail [32] r).length=wt r
 | []=>rfl
 | x::r=>by
  have:=jt_wt r;simp only[Lib.joinTail,List.map_cons,List.flatten_cons,List.length_append,List.length_cons,List.length_nil,wt]at this ⊢;omega
theorem b5r:∀l:List Str,(Lib.join l [32]).length<=wt l/\wt l <=(Lib.join l [32]).length+1
 | []=>⟨Nat.le_refl _,Nat.zero_le _⟩
 | x::r=>by
  rw[Lib.join_cons,List.length_append,jt_wt,wt];omega
theorem joinI_H {a:List Str}{H:Hp}(h1:a.length<=140737488355328)(h2:(Lib.join a [32]).length<=140737488355328):b4w [.slice .sealed (List.length a) (clS a),.str [32]] H=some (.ret (.str (Lib.join a [32])) H):=by
 have e:eqN a.length (List.length a)=true:=a2d rfl;have e1:leN a.length 140737488355328=true:=a9s h1;have e2:leN (Lib.join a [32]).length 140737488355328=true:=a9s h2;unfold b4w;simp only[b6O,e,e1,e2,gd,Bool.and_self]
theorem c3D {d:Nod}(h1:O0 n d []=some ws)(h2:wt ws<=100000000000):Lw.b4y Pr.env (b2S d) (Lib.join ws [32]):=by
 have hj:=b5r ws;have hl:=b48 ws;have h3:a5U ws=some (Lib.join ws [32]):=by
  unfold a5U c3v leN;rw[decide_eq_true zOm,decide_eq_true zOm];rfl
 exact⟨_,_,a7d.ok h1,a9w.ok h3⟩
theorem c3E {d:Nod}(h1:((a2g n [] d).bind fun r=>some r.1)=some ws)(h2:wt ws<=100000000000):Lw.b5u Pr.env (b2S d) (Lib.join ws [32]):=by
 have hj:=b5r ws;have hl:=b48 ws;obtain⟨⟨a,b⟩,e,h⟩:=Option.bind_eq_some_iff.1 h1;cases h;simp only at h2 hj hl;exact⟨_,_,_,b6F.ok e,a7f rfl (joinI_H zOm zOm)⟩
theorem b5v {c:Nat}{R R':List V->List UInt8->Prop}:∀{l:List Nod},(∀d∈l,∃s:Str,s.length<=2000000*d.sz/\c*bkn d<=s.length+1/\R (b2S d) s/\R' (b2S d) s) -> ∃ls,Lw.Lines R (D9 l) ls/\Lw.Lines R' (D9 l) ls/\ls.length=l.length/\(Lw.printed ls).length<=2000001*szN l/\c*bkN l <=(Lw.printed ls).length
 | [],_=>⟨[],.nil,.nil,rfl,by simp[Lw.printed],by simp[bkN]⟩
 | x::r,h=>by
  obtain⟨s,h1,h0,h2,h3⟩:=h x List.mem_cons_self;obtain⟨ls,g1,g2,g3,g4,g5⟩:=b5v (c:=c) (l:=r) fun d hd=>h d (List.mem_cons_of_mem _ hd);have e:D9 (x::r)=b2S x++D9 r:=b79.cons x r;have hz:=x.H8;have e2:Lw.printed (s::ls)=s++[10]++Lw.printed ls:=by simp[Lw.printed]
  refine⟨s::ls,by rw[e];exact .cons _ _ _ _ rfl h2 g1,by rw[e];exact .cons _ _ _ _ rfl h3 g2,by rw[List.length_cons,List.length_cons,g3],?_,?_⟩<;>rw[e2]<;>simp only[WN,List.length_append,List.length_cons,List.length_nil]
  ·omega
  rw[Nat.mul_add];omega
section
variable {d:Nod} (hs:d.sz<=12000) (hb:bkn d<=20000) (hr:d.rn)
include hs hb hr
theorem ch (hc:c∈d.l):c.sz<=12000/\bkn c<=20000/\rnN c.l:=by
 have hz:=d.H8;have hbk:=a6V d;have h1:=a0L hc;have h2:=a6t hc;exact⟨zOm,zOm,((b6K c).1 (b7M ((b6K d).1 hr).2 hc)).2⟩
theorem P_line (hc:c∈d.l):∃ws,O0 400000 c []=some ws/\wt ws<=2000000*c.sz:=by
 obtain⟨h1,h2,h3⟩:=ch hs hb hr hc;exact tw_run (dec_o (n:=400000) zOm zOm h3 zOm) zOm
theorem R_line (hc:c∈d.l):∃ws,((a2g 400000 [] c).bind fun r=>some r.1)=some ws/\wt ws<=2000000*c.sz:=by
 obtain⟨h1,h2,h3⟩:=ch hs hb hr hc;exact tw_run (dec_d (n:=400000) zOm zOm h3 zOm) zOm
theorem pG:∃s,b0b d=some s:=by
 have hz:=d.H8;have hl:=I8 d.l;obtain⟨ls,h1,_,h3,h4,_⟩:=b5v (c:=0) (R:=Lw.b4y Pr.env) (R':=Lw.b4y Pr.env) (l:=d.l) fun c hc=>by
  obtain⟨ws,e,e1⟩:=P_line hs hb hr hc;have:=ch hs hb hr hc;have hj:=b5r ws;have e2:=c3D e zOm;exact⟨_,zOm,zOm,e2,e2⟩
 refine⟨Lw.printed ls,?_⟩;unfold b0b;rw[a7f (h:=Pr.a8r) rfl (Lw.b1x Lw.b6t h1 h3 zOm zOm)]
theorem pR:∃s,b3r d=some s:=by
 have hz:=d.H8;have hl:=I8 d.l;obtain⟨ls,h1,_,h3,h4,_⟩:=b5v (c:=0) (R:=Lw.b5u Pr.env) (R':=Lw.b5u Pr.env) (l:=d.l) fun c hc=>by
  obtain⟨ws,e,e1⟩:=R_line hs hb hr hc;have:=ch hs hb hr hc;have hj:=b5r ws;have e2:=c3E e zOm;exact⟨_,zOm,zOm,e2,e2⟩
 refine⟨Lw.printed ls,?_⟩;unfold b3r;rw[a7f (h:=Pr.c2i) rfl (Lw.b1x Lw.c0r h1 h3 zOm zOm)]
theorem pS (hG:∀y∈d.l,G V0 18 y):∃s,b0b d=some s/\b3r d=some s/\bkN d.l<=s.length:=by
 have hz:=d.H8;have hl:=I8 d.l;obtain⟨ls,h1,h2,h3,h4,h5⟩:=b5v (c:=1) (R:=Lw.b4y Pr.env) (R':=Lw.b5u Pr.env) (l:=d.l) fun c hc=>by
  obtain⟨ws,e,e1⟩:=P_line hs hb hr hc;obtain⟨q1,q2,q3⟩:=ch hs hb hr hc;obtain⟨us,k1,k2,k3⟩:=sw_run (dec_w (n:=400000) (n':=400000) (hG c hc) zOm zOm zOm zOm) zOm;rw[e]at k1;cases k1;have hj:=b5r ws;exact⟨_,zOm,zOm,c3D e zOm,c3E k2 zOm⟩
 refine⟨Lw.printed ls,?_,?_,zOm⟩
 ·unfold b0b;rw[a7f (h:=Pr.a8r) rfl (Lw.b1x Lw.b6t h1 h3 zOm zOm)]
 unfold b3r;rw[a7f (h:=Pr.c2i) rfl (Lw.b1x Lw.c0r h2 h3 zOm zOm)]
end
theorem mod_ln {s:Str}(h:8000<s.length):∃x f fs,a2m n s=some (x,f::fs):=by
 unfold a2m a7R b2q;rcases c4K s with⟨h1,h2⟩ |⟨h1,_⟩
 ·have hk:=(Sc.b0k s).1;exfalso;cases hr:Sc.a6T s with
  | done l=>have:=(hk.lay l hr).1;omega
  | go x=>rw[hr]at hk;exact hk.bd.elim
  | err c a=>rw[hr]at hk h1;exact hk.nz c a rfl h1
 simp only[NF,a5N h1,Bool.false_and];exact⟨_,_,_,rfl⟩
theorem valid_b {d:Nod}(hf:d.fits)(hs:d.sz<=12000)(hb:bkn d<=20000)(hn:400000<=n):∃v,a9i n d=some v/\a9m n d=some v:=by
 have hr:=b9m d hf;have hz:=d.H8;have hbk:=a6V d;have hl:=I8 d.l;obtain⟨⟨z,dp⟩,e1⟩:=siz_v d.sz n d (Nat.le_refl _) zOm zOm;have e2:a5g n d=some (z,dp):=(c6y n d).trans e1;have no:∃v,some false=some v/\some false=some v:=⟨false,rfl,rfl⟩
 unfold a9i a9m;rw[e1,e2];simp only[NF];cases ho:eqB d.op 1 with
 | false=>simp only[NF];exact no
 | true =>
  cases hz1:ltB 4000 z with
  | true=>simp only[NF];exact no
  | false =>
   cases hz2:ltB 40 dp with
   | true=>simp only[NF];exact no
   | false =>
    obtain⟨r4,e4,_,_,_,h4⟩:=Bk_ok d.sz d n 8001 (Nat.le_refl _) hf zOm zOm zOm;obtain⟨s,e5⟩:=pG hs hb hr;obtain⟨s',e6⟩:=pR hs hb hr;have key:∀es,szN es<=12000 ->(∀y∈es,G V0 18 y) -> ∃v,(H9.fs n).a1M ⟨1,[],0,zT,[],es,0⟩ d false=some v/\(v=true->s=s'/\bkn d<=s.length):=fun es he hG=>by
     obtain⟨v,q1,q2,_⟩:=en_ok (q:=false) (Nod.sz ⟨1,[],0,zT,[],es,0⟩) ⟨1,[],0,zT,[],es,0⟩ d n (Nat.le_refl _) (by simp only[nsz];have:zT.sz=1:=rfl;simp only[b38];omega) (by simp only[nsz];have:zT.sz=1:=rfl;simp only[b38];omega);refine⟨v,q1,fun hv=>?_⟩;obtain⟨l',a',hd,hsim⟩:=I9.1 (q2 hv);obtain⟨t,w1,w2,w3⟩:=pS hs hb hr (by subst hd;exact U7 hsim fun y hy z hz=>(hG y hy).same z hz);rw[e5]at w1;rw[e6]at w2;cases w1;cases w2;refine⟨rfl,?_⟩;have hz0:bkt zT=0:=rfl;subst hd;simp only[WN,List.length_nil]at w3 ⊢;omega
    have fz:∀{l:List Flt},l ≠ []->eqB (l.length:Int) 0=false:=fun{l} h=>a5N (by cases l;exact absurd rfl h;simp;omega);have fe:eqB (([]:List Flt).length:Int) 0=true:=a5O rfl;have hln:∀{x:Nod},a2m n s=some (x,[])->s.length<=8000:=fun{x} h=>by
     rcases Nat.lt_or_ge 8000 s.length with h1|h1
     ·obtain⟨_,_,_,h2⟩:=mod_ln (n:=n) h1;rw[h]at h2;cases h2
     exact h1
    simp only[NF,e4,e5,e6,a6y,b2h,(sam_n n _ _).1,a1M];by_cases hss:s=s'
    ·subst hss;obtain⟨x,fs,x',fs',g1,k1,g2⟩:=b8I hn s;rcases g2 with⟨rfl,rfl,es,rfl,rfl,he,hG⟩ |⟨h1,h2⟩
     ·obtain⟨v,q1,q2⟩:=key es he hG;have h8:=hln g1;refine⟨v,by simp only[g1,NF,fe,q1],?_⟩;cases h9:ltB 8000 r4 with
      | false=>simp only[k1,NF,fe,q1]
      | true =>
       have h9:(8000:Int)<r4:=by unfold ltB at h9;exact of_decide_eq_true h9
       cases v with
       | false=>rfl
       | true=>have:=(q2 rfl).2;omega
     refine⟨false,by simp only[g1,NF,fz h1],?_⟩;cases ltB 8000 r4
     ·simp only[k1,NF,fz h2]
     rfl
    obtain⟨x,fs,_,_,g1,_,g2⟩:=b8I hn s;obtain⟨_,_,x',fs',_,k1,k2⟩:=b8I hn s';refine⟨false,?_,?_⟩
    ·rcases g2 with⟨rfl,_,es,rfl,_,he,hG⟩ |⟨h1,_⟩
     ·obtain⟨v,q1,q2⟩:=key es he hG;cases v with
      | false=>simp only[g1,NF,fe,q1]
      | true=>exact absurd (q2 rfl).1 hss
     simp only[g1,NF,fz h1]
    cases ltB 8000 r4
    ·rcases k2 with⟨_,rfl,es,rfl,rfl,he,hG⟩ |⟨_,h1⟩
     ·obtain⟨v,q1,q2⟩:=key es he hG;cases v with
      | false=>simp only[k1,NF,fe,q1]
      | true=>exact absurd (q2 rfl).1 hss
     simp only[k1,NF,fz h1]
    rfl
def srcA:Str:=[102,117,110,99,32,102,40,120,58,32,73,110,116,41,32,45,62,32,73,110,116,32,123,32,114,101,116,117,114,110,32,120,32,43,32,50,32,42,32,51,59,32,125]
def runM (u:Str):Nat->Sc.MS->Sc.MR
 | 0,x=>.go x
 | n+1,x=>match Sc.stepM u x with
  | .go y=>runM u n y
  | r=>r
theorem b35 {u:Str}:∀(n:Nat) (x:Sc.MS) (l:List Sc.Tok),runM u n x=.done l->Sc.Ends u x (.done l)
 | 0,x,l,h=>by cases h
 | n+1,x,l,h=>by
  unfold runM at h;cases hs:Sc.stepM u x with
  | go y =>
   rw[hs]at h;exact Sc.Ends.a0s u (.step _ _ _ hs (.refl _)) (b35 n y l h)
  | err c a=>rw[hs]at h;cases h
  | done m=>rw[hs]at h;cases h;exact⟨x,.refl _,hs,fun z h=>by cases h⟩
def tksA:List Sc.Tok:=match runM srcA 40 ⟨0,[],[]⟩with
 | .done l=>l
 | _=>[]
theorem tok_A:Sc.a6T srcA=.done tksA:=Sc.Ends.det _ ((Sc.b0k srcA).2.2.2 zDe) (b35 40 _ _ zKr)
noncomputable def nodA:Nod:=match U1 1000000 srcA (tksA.map c3a) 1000000 1 [] [] 0 with
 | some (_,[x])=>x
 | _=>⟨0,[],0,⟨0,[],0,[]⟩,[],[],0⟩
theorem mod_A (k:Nat):U1 (k+1000000) srcA (tksA.map c3a) (k+1000000) 1 [] [] 0=some ([],[nodA]):=zKr
noncomputable def wsA:List Str:=(O0 1000000 nodA []).getD []
theorem prt_A:O0 1000000 nodA []=some wsA:=zKr
theorem txt_A:a5U wsA=some (Lib.join wsA [32]):=zKr
theorem c5h (k:Nat):a7Q (k+1000000)=some true:=by
 have h1:a2m (k+1000000) srcA=some (⟨1,[],0,⟨0,[],0,[]⟩,[],[nodA],0⟩,[]):=by
  have c1:b44 (Sc.a6T srcA)=0:=by rw[tok_A];rfl
  have c2:tokA (Sc.a6T srcA)=0:=by rw[tok_A];rfl
  unfold a2m a7R b2q;simp only[NF,c1,c2,show eqB 0 0=true from a5O rfl,Bool.and_self];rw[tok_A,show b4i (.done tksA)=tksA.map c3a from rfl,mod_A];rfl
 have h2:b0b ⟨1,[],0,⟨0,[],0,[]⟩,[],[nodA],0⟩=some (Lw.printed [Lib.join wsA [32]]):=by
  have hl:Lw.Lines (Lw.b4y Pr.env) (D9 [nodA]) [Lib.join wsA [32]]:=by
   have e:D9 [nodA]=b2S nodA++[]:=b79.cons nodA [];rw[e];exact .cons _ _ _ _ rfl ⟨_,_,a7d.ok prt_A,a9w.ok txt_A⟩ .nil
  unfold b0b;rw[a7f (h:=Pr.a8r) rfl (Lw.b1x Lw.b6t hl (show [Lib.join wsA [32]].length=[nodA].length from rfl) zDe (Nat.le_of_ble_eq_true zKr))]
 have h3:eqS (Lw.printed [Lib.join wsA [32]]) [102,117,110,99,32,102,32,40,32,120,32,58,32,73,110,116,32,41,32,45,62,32,73,110,116,32,123,32,114,101,116,117,114,110,32,40,32,120,32,43,32,40,32,50,32,42,32,51,32,41,32,41,32,59,32,125,10]=true:=zKr;unfold a7Q;show((a2m (k+1000000) srcA).bind _)=some true;rw[h1];simp only[NF,show eqB ((([]:List Flt).length:Nat):Int) 0=true from a5O rfl];rw[h2];simp only[NF,h3]
theorem c6H (d:Nod)(hf:d.fits):a7i (d.sz+1000000) d=some true:=by
 obtain⟨b,e1,g1⟩:=big_ok d (d.sz+1000000) hf zOm;unfold a7i;simp only[e1,NF,c5h];cases b with
 | true=>rfl
 | false =>
  obtain⟨h1,h2⟩:=g1 rfl;obtain⟨v,e2,e3⟩:=valid_b hf h2 h1 (n:=d.sz+1000000) zOm;simp only[e2,e3,NF,beq_self_eq_true]
end Go.Proofs.YtimgnjbjbdgmaaaGreatDoor
namespace Go.Proofs.YtimgnjbjbdgmaaaGreatDoor
open Go Go.Vm
variable {α:Type} {vs:List V} {cs:List Value} {sz t:Nat} {c1:α->List V} {F:α->Prop}
structure Rd (W:World)(vs:List V)(cs:List Value):Prop where
 rel:L6 b6J b3d W vs cs
 nf:∀v∈vs,Go.Vm.NF v
 one:∀x∈cs,x.oneCell'=true
theorem Rd.nil (W:World):Rd W [] []:=⟨⟨rfl,zSi⟩,zSi,zSi⟩
theorem Rd.cons {W:World}{v:V}{x:Value}(h:Rel b6J b3d W v x)(hn:Go.Vm.NF v)(ho:x.oneCell'=true)(g:Rd W vs cs):Rd W (v::vs) (x::cs) :=
 ⟨F8.2 ⟨_,_,rfl,h,g.rel⟩,fun u hu=>(List.mem_cons.1 hu).elim (fun e=>e▸hn) (g.nf u),fun u hu=>(List.mem_cons.1 hu).elim (fun e=>e▸ho) (g.one u)⟩
theorem Rd.append {W:World}{us:List V}{ds:List Value}(h:Rd W vs cs)(g:Rd W us ds):Rd W (vs++us) (cs++ds) :=
 ⟨L6.append h.rel g.rel,fun u hu=>(List.mem_append.1 hu).elim (h.nf u) (g.nf u),fun u hu=>(List.mem_append.1 hu).elim (h.one u) (g.one u)⟩
theorem c1A {α:Type}{Q:Nat->α->Prop}:∀n,(∀i,i<n -> ∃x,Q i x) -> ∃l:List α,l.length=n /\ ∀i x,l[i]? = some x->Q i x
 | 0,_=>⟨[],rfl,fun i x h=>by simp at h⟩
 | n+1,h=>by
  obtain⟨l,h1,h2⟩:=c1A n fun i hi=>h i zOm;obtain⟨x,hx⟩:=h n zOm;refine⟨l++[x],by simp[h1],fun i y hy=>?_⟩;rw[List.getElem?_append]at hy;split at hy
  ·exact h2 i y hy
  rename_i hi;have:i=n:=by
   rcases Nat.lt_or_ge (i-l.length) 1 with h3|h3
   ·omega
   rw[List.getElem?_eq_none (by simpa using h3)]at hy;cases hy
  subst this;rw[h1,Nat.sub_self]at hy;simp at hy;subst hy;exact hx
theorem rd_list {cl:List α->List V}(he:a5B sz c1 cl)(hsz:0<sz){W:World}{a:Addr}{len cap:Nat}(hlc:len<=cap)
  (hel:∀i,i<len -> ∃cs,W.cells? 0 (a.add (i*sz)) sz=some cs /\ ∃x,Rd W (c1 x) cs/\F x) :
  ∃l:List α,l.length=len/\(∀x∈l,F x)/\Rel b6J b3d W (.slice .sealed (List.length l) (cl l)) (.slice (some a) len cap)/\Go.Vm.NF (.slice .sealed (List.length l) (cl l)):=by
 obtain⟨l,h1,h2⟩:=c1A (Q:=fun i x=>∃cs,W.cells? 0 (a.add (i*sz)) sz=some cs/\Rd W (c1 x) cs/\F x) len fun i hi=>by
  obtain⟨cs,g1,x,g2,g3⟩:=hel i hi;exact⟨x,cs,g1,g2,g3⟩
 subst h1;have hF:∀x∈l,F x:=fun x hx=>by
  obtain⟨i,hi⟩:=List.getElem?_of_mem hx;obtain⟨_,_,_,h⟩:=h2 i x hi;exact h
 have hlen:=he.length l;have part:∀q v,(cl l)[q]? = some v -> ∃x cs,l[q/sz]? = some x/\W.cells? 0 (a.add (q/sz*sz)) sz=some cs/\Rd W (c1 x) cs/\(c1 x)[q%sz]? = some v:=by
  intro q v hv;have hq:q<l.length*sz:=by
   rw[<-hlen];rcases Nat.lt_or_ge q (cl l).length with h|h
   ·exact h
   rw[List.getElem?_eq_none h]at hv;cases hv
  have hi:q/sz<l.length:=Nat.div_lt_of_lt_mul (by rw[Nat.mul_comm];exact hq);have hx:l[q/sz]? = some l[q/sz]:=List.getElem?_eq_getElem hi;obtain⟨cs,g1,g2,g3⟩:=h2 _ _ hx;refine⟨_,cs,hx,g1,g2,?_⟩;have h3:=he.at hx;have h4:((cl l).drop (q/sz*sz))[q%sz]? = some v:=by
   rw[List.getElem?_drop,Nat.mul_comm,Nat.div_add_mod];exact hv
  rw[h3,List.getElem?_append_left (by rw[he.len];exact Nat.mod_lt _ hsz)]at h4;exact h4
 refine⟨l,rfl,hF,?_,.slice _ _ _ (fun g h=>by cases h) (fun v hv=>?_)⟩
 ·rcases Nat.eq_zero_or_pos l.length with h0|h0
  ·have:l=[]:=List.length_eq_zero_iff.1 h0;subst this;rw[he.nil];exact .slice _ 0 [] [] 0 0 (some a) cap rfl (Nat.zero_le _) (fun h=>zOm) (fun _=>rfl) (fun i x h=>by simp at h) (fun i v x h=>by simp at h) trivial zSi zSi
  ·
   have hs:a.spot=none:=by
    obtain⟨cs,g1,g2,g3⟩:=h2 0 l[0] (List.getElem?_eq_getElem h0);obtain⟨_,c2,c3⟩:=World.cells?_some g1;have c4:=c3 0 hsz;simp only[Nat.zero_mul,Addr.add,if_true]at c4;have hc:0<cs.length:=zOm;rw[List.getElem?_eq_getElem hc]at c4;unfold World.cell? at c4;split at c4
    ·split at c4
     ·cases c4
     rename_i hsp;cases hq:a.spot with
     | none=>rfl
     | some s=>rw[hq]at hsp;simp at hsp
    cases c4
   obtain⟨b,o,sp⟩:=a;simp only at hs;subst hs;have hadd:∀o n,(⟨b,o,none⟩:Addr).add n =⟨b,o+n,none⟩:=fun o n=>by
    unfold Addr.add;split
    ·rename_i h;subst h;rfl
    rfl
   have cells:∀q v,(cl l)[q]? = some v -> ∃x,W.cell? ⟨b,o+q,none⟩=some x/\Rel b6J b3d W v x/\x.oneCell'=true:=by
    intro q v hv;obtain⟨x,cs,_,g1,g2,g3⟩:=part q v hv;obtain⟨_,c2,c3⟩:=World.cells?_some g1;have c4:=c3 (q%sz) (Nat.mod_lt _ hsz);rw[hadd,hadd,Nat.add_assoc,Nat.mul_comm,Nat.div_add_mod]at c4;have hj:q%sz<cs.length:=by rw[c2];exact Nat.mod_lt _ hsz
    rw[List.getElem?_eq_getElem hj]at c4;exact⟨_,c4,g2.rel.2 _ _ _ g3 (List.getElem?_eq_getElem hj),g2.one _ (List.getElem_mem hj)⟩
   have hget:∀q,q<(cl l).length -> ∃x,W.cell? ⟨b,o+q,none⟩=some x/\Rel b6J b3d W ((cl l)[q]?.getD .undef) x/\x.oneCell'=true:=fun q hq=>by
    have hv:(cl l)[q]? = some (cl l)[q]:=List.getElem?_eq_getElem hq;rw[hv];exact cells q _ hv
   obtain⟨xs,e1,e2⟩:=c1A (cl l).length hget;refine .slice _ l.length (cl l) xs b o (some ⟨b,o,none⟩) cap e1 hlc (fun _=>rfl) (fun h=>zOm) (fun i x hx=>⟨rfl,(e2 i x hx).1⟩) (fun i v x hv hx=>?_) trivial (fun x hx=>?_) (fun v hv=>?_)
   ·have:=(e2 i x hx).2.1;rw[hv]at this;exact this
   ·obtain⟨i,hi⟩:=List.getElem?_of_mem hx;exact(e2 i x hi).2.2
   obtain⟨q,hq⟩:=List.getElem?_of_mem hv;obtain⟨x,cs,_,_,g2,g3⟩:=part q v hq;exact g2.nf v (List.mem_of_getElem? g3)
 obtain⟨q,hq⟩:=List.getElem?_of_mem hv;obtain⟨x,cs,_,_,g2,g3⟩:=part q v hq;exact g2.nf v (List.mem_of_getElem? g3)
theorem four (l:List α)(h:l.length=4):∃y0 y1 y2 y3,l=[y0,y1,y2,y3]:=by
 match l,h with
 | [y0,y1,y2,y3],_=>exact⟨_,_,_,_,rfl⟩
theorem b3C {H:Type}{P:Program}{e:TypeId}:∀{l:List (DataW H)} {d:DataW H},d∈l -> ∀n∈d.weights P e,n∈DataW.weightsAll P e l
 | d'::r,d,hd,n,hn=>by
  simp only[DataW.weightsAll,List.mem_append];rcases List.mem_cons.1 hd with rfl|h
  ·exact Or.inl hn
  exact Or.inr (b3C h n hn)
theorem b8l:∀{l:List Typ},(∀x∈l,x.fits)->b8k l
 | [],_=>trivial
 | x::r,h=>⟨h x zSi,b8l fun y hy=>h y (by simp[hy])⟩
theorem c3n:∀{l:List Nod},(∀x∈l,x.fits)->c0h l
 | [],_=>trivial
 | x::r,h=>⟨h x zSi,c3n fun y hy=>h y (by simp[hy])⟩
section
variable {H:Type} {enc:TypeId×Value->H} {W:World} {spare:Nat->Bool} {held:Bool}
theorem b7x:Tryz.prog.cellsOf 24=4:=zKr
theorem c67:Tryz.prog.cellsOf 27=10:=zKr
theorem cellsI:Tryz.prog.cellsOf 3=1:=zKr
theorem cellsS:Tryz.prog.cellsOf 9=1:=zKr
theorem c2Y:Tryz.prog.cellsOf 22=1:=zKr
theorem cellsSnd:Tryz.prog.cellsOf 25=1:=zKr
theorem b26 {i:Nat}{fs:Array Field}{xs:List (DataW H×List MemPlace)}{f:Field}{y:DataW H×List MemPlace}(ht:Tryz.prog.underlying t=some (.struct fs))(hw:∀q∈(DataW.agg (xs.map (·.1))).weights Tryz.prog t,q<=140737488355328)(hf:fs[i]? = some f)(hy:xs[i]? = some y):∀q∈y.1.weights Tryz.prog f.type,q<=140737488355328:=fun q hq=>hw q (by
 simp only[DataW.weights,ht];exact DataW.weights_mem_each (j:=i) (by simp[hf]) (by simp[hy]) q hq)
theorem b9e {e:Nat}{cl:List α->List V}(he:a5B sz c1 cl)(hsz:0<sz){n:Nat}{x:DataW H×List MemPlace}(ht:Tryz.prog.underlying t=some (.slice e))(hc:Tryz.prog.cellsOf e=sz)(hbt:0<Tryz.prog.bytesOf e)
  (hel:∀m cs x,m<n ->(∀q∈x.1.weights Tryz.prog e,q<=140737488355328)->DataW.trod enc Tryz.prog W 0 spare held m e cs=some x -> ∃a,Rd W (c1 a) cs/\F a) (hw:∀q∈x.1.weights Tryz.prog t,q<=140737488355328) (h:DataW.trod enc Tryz.prog W 0 spare held n t cs=some x) :
  ∃l:List α,(∀a∈l,F a)/\l.length<=140737488355328/\Rd W [.slice .sealed (List.length l) (cl l)] cs:=by
 rcases DataW.trod_slice ht h with⟨rfl,_⟩ |⟨a,len,cap,elems,rest,m,rfl,rfl,rfl,hb,hl,hm,hlen,hE,_⟩
 ·refine⟨[],zSi,zSi,?_⟩;rw[he.nil];exact Rd.cons (.slice _ 0 [] [] 0 0 none 0 rfl (Nat.zero_le _) (fun h=>zOm) (fun _=>rfl) (fun i x h=>by simp at h) (fun i v x h=>by simp at h) trivial zSi zSi) (.slice _ _ _ (fun g h=>by cases h) zSi) rfl (Rd.nil W)
 have w0:(DataW.slice (elems.map (·.1)) (rest.map (·.1))).weights Tryz.prog t =((elems.map (·.1)).length+(rest.map (·.1)).length)*Tryz.prog.bytesOf e ::(DataW.weightsAll Tryz.prog e (elems.map (·.1))++DataW.weightsAll Tryz.prog e (rest.map (·.1))):=by simp only[DataW.weights,ht]
 have hw:∀q∈(DataW.slice (elems.map (·.1)) (rest.map (·.1))).weights Tryz.prog t,q<=140737488355328:=hw;rw[w0]at hw;obtain⟨l,h1,h2,h3,h4⟩:=rd_list he hsz (F:=F) (W:=W) (a:=a) hl (fun i hi=>by
  have h5:=hE i hi;rw[List.getElem?_eq_getElem (by rw[hlen];exact hi),hc,Option.bind_eq_some_iff]at h5;obtain⟨ds,h6,h7⟩:=h5;obtain⟨y,h8,h9⟩:=hel m ds _ (Nat.lt_succ_self m) (fun q hq=>hw q (List.mem_cons_of_mem _ (List.mem_append_left _ (b3C (List.mem_map_of_mem (List.getElem_mem _)) q hq)))) h7;exact⟨ds,h6,y,h8,h9⟩)
 refine⟨l,h2,?_,Rd.cons h3 h4 rfl (Rd.nil W)⟩;have h10:=hw _ (List.mem_cons_self ..);rw[List.length_map,List.length_map]at h10;have:=Nat.le_trans (Nat.le_mul_of_pos_right (elems.length+rest.length) hbt) h10;omega
theorem rd_typ:∀(n:Nat) (cs:List Value) (x:DataW H×List MemPlace),(∀q∈x.1.weights Tryz.prog 24,q<=140737488355328)->DataW.trod enc Tryz.prog W 0 spare held n 24 cs=some x -> ∃t:Typ,Rd W (c1Typ t) cs/\t.fits:=by
 intro n;induction n using Nat.strongRecOn with
 | _ n ih =>
 intro cs x hw h;obtain⟨xs,m,rfl,rfl,hl,hxs,hf⟩:=DataW.trod_struct Tryz.underlying24 h;rw[b7x]at hl;obtain⟨z0,z1,z2,z3,rfl⟩:∃z0 z1 z2 z3,cs=[z0,z1,z2,z3]:=by
  exact four cs hl
 have hx:∀i,i<4 -> ∃y,xs[i]? = some y:=fun i hi=>⟨xs[i]'(by rw[hxs];exact hi),List.getElem?_eq_getElem _⟩
 obtain⟨y0,k0⟩:=hx 0 zOm;obtain⟨y1,k1⟩:=hx 1 zOm;obtain⟨y2,k2⟩:=hx 2 zOm;obtain⟨y3,k3⟩:=hx 3 zOm;have w0:=b26 Tryz.underlying24 hw (i:=0) rfl k0;have w1:=b26 Tryz.underlying24 hw (i:=1) rfl k1;have w2:=b26 Tryz.underlying24 hw (i:=2) rfl k2;have w3:=b26 Tryz.underlying24 hw (i:=3) rfl k3;have f0:=hf 0 _ rfl;have f1:=hf 1 _ rfl;have f2:=hf 2 _ rfl;have f3:=hf 3 _ rfl;simp only[k0,k1,k2,k3,cellsI,cellsS,c2Y,List.drop,List.take]at f0 f1 f2 f3;obtain⟨a0,e0,_,_⟩:=DataW.trod_int Tryz.underlying3 f0;obtain⟨a1,e1,rfl,_⟩:=DataW.trod_string Tryz.underlying9 f1;have b1:a1.data.toList.length<=140737488355328:=w1 _ (by simp[DataW.weights]);obtain⟨a2,e2,_,_⟩:=DataW.trod_int Tryz.underlying3 f2;obtain⟨l,l1,l2,l3⟩:=b9e c1p zOm (F:=Typ.fits) Tryz.underlying22 b7x (of_decide_eq_true zKr) (fun q cs x hq hw hh=>ih q zOm cs x hw hh) w3 f3;obtain⟨rfl,_⟩:=List.cons.inj e0;obtain⟨rfl,_⟩:=List.cons.inj e1;obtain⟨rfl,_⟩:=List.cons.inj e2;refine⟨⟨a0,a1.data.toList,a2,l⟩,?_,b1,l2,b8l l1⟩;exact Rd.cons (.int _ _) (.int _ _) rfl (Rd.cons (.str a1.data.toList) (.str _) rfl (Rd.cons (.int _ _) (.int _ _) rfl l3))
theorem rd_nod:∀(n:Nat) (cs:List Value) (x:DataW H×List MemPlace),(∀q∈x.1.weights Tryz.prog 27,q<=140737488355328)->DataW.trod enc Tryz.prog W 0 spare held n 27 cs=some x -> ∃t:Nod,Rd W (b2S t) cs/\t.fits:=by
 intro n;induction n using Nat.strongRecOn with
 | _ n ih =>
 intro cs x hw h;obtain⟨xs,m,rfl,rfl,hl,hxs,hf⟩:=DataW.trod_struct Tryz.underlying27 h;rw[c67]at hl;obtain⟨z0,z1,z2,z3,z4,z5,z6,z7,z8,z9,rfl⟩:∃z0 z1 z2 z3 z4 z5 z6 z7 z8 z9,cs=[z0,z1,z2,z3,z4,z5,z6,z7,z8,z9]:=Lw.ten cs hl;have hx:∀i,i<7 -> ∃y,xs[i]? = some y:=fun i hi=>⟨xs[i]'(by rw[hxs];exact hi),List.getElem?_eq_getElem _⟩
 obtain⟨y0,k0⟩:=hx 0 zOm;obtain⟨y1,k1⟩:=hx 1 zOm;obtain⟨y2,k2⟩:=hx 2 zOm;obtain⟨y3,k3⟩:=hx 3 zOm;obtain⟨y4,k4⟩:=hx 4 zOm;obtain⟨y5,k5⟩:=hx 5 zOm;obtain⟨y6,k6⟩:=hx 6 zOm;have w0:=b26 Tryz.underlying27 hw (i:=0) rfl k0;have w1:=b26 Tryz.underlying27 hw (i:=1) rfl k1;have w2:=b26 Tryz.underlying27 hw (i:=2) rfl k2;have w3:=b26 Tryz.underlying27 hw (i:=3) rfl k3;have w4:=b26 Tryz.underlying27 hw (i:=4) rfl k4;have w5:=b26 Tryz.underlying27 hw (i:=5) rfl k5;have w6:=b26 Tryz.underlying27 hw (i:=6) rfl k6;have f0:=hf 0 _ rfl;have f1:=hf 1 _ rfl;have f2:=hf 2 _ rfl;have f3:=hf 3 _ rfl;have f4:=hf 4 _ rfl;have f5:=hf 5 _ rfl;have f6:=hf 6 _ rfl;simp only[k0,k1,k2,k3,k4,k5,k6,cellsI,cellsS,b7x,c2Y,cellsSnd,List.drop,List.take]at f0 f1 f2 f3 f4 f5 f6;obtain⟨a0,e0,_,_⟩:=DataW.trod_int Tryz.underlying3 f0;obtain⟨a1,e1,rfl,_⟩:=DataW.trod_string Tryz.underlying9 f1;have b1:a1.data.toList.length<=140737488355328:=w1 _ (by simp[DataW.weights]);obtain⟨a2,e2,_,r2⟩:=DataW.trod_int Tryz.underlying3 f2;obtain⟨ty,t1,t2⟩:=rd_typ _ _ _ w3 f3;obtain⟨l,l1,l2,l3⟩:=b9e c1p zOm (F:=Typ.fits) Tryz.underlying22 b7x (of_decide_eq_true zKr) (fun q cs x hq hw hh=>rd_typ q cs x hw hh) w4 f4;obtain⟨g,g1,g2,g3⟩:=b9e b79 zOm (F:=Nod.fits) Tryz.underlying25 c67 (of_decide_eq_true zKr) (fun q cs x hq hw hh=>ih q zOm cs x hw hh) w5 f5;obtain⟨a6,e6,_,_⟩:=DataW.trod_int Tryz.underlying3 f6;obtain⟨rfl,_⟩:=List.cons.inj e0;obtain⟨rfl,_⟩:=List.cons.inj e1;obtain⟨rfl,_⟩:=List.cons.inj e2;obtain⟨rfl,_⟩:=List.cons.inj e6;have r3:-9223372036854775808<=a2/\a2<=9223372036854775807:=by
  simp only[Lit.wf,Bool.and_eq_true,decide_eq_true_iff]at r2;exact r2
 refine⟨⟨a0,a1.data.toList,a2,ty,l,g,a6⟩,?_,b1,r3,l2,g2,t2,b8l l1,c3n g1⟩;exact Rd.cons (.int _ _) (.int _ _) rfl (Rd.cons (.str a1.data.toList) (.str _) rfl (Rd.cons (.int _ _) (.int _ _) rfl (Rd.append t1 (Rd.append l3 (Rd.append g3 (Rd.cons (.int _ _) (.int _ _) rfl (Rd.nil W)))))))
end
theorem c9c (d:Nod)(hf:d.fits):E env (.call 3 [.agg (b2S d)]) []=some (.ret (.bool true) []):=b4N.ok (c6H d hf)
end Go.Proofs.YtimgnjbjbdgmaaaGreatDoor
