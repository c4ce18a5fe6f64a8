/- Texts of ParseRecovers, joined. -/
import Derived.Test.YtjhfloacokgdiaaGreatDoorParseRecoversJ6
import Derived.Test.YtjhfloacokgdiaaGreatDoorProg
import Derived.Tactics
import Derived.Tactics2
import Derived.Defers
import Derived.Laws.Pointers
import Derived.Laws.LoneSync
import Derived.RegionTactic
import Derived.RegionCalls
import Derived.ChangeAlike
set_option maxRecDepth 100000
set_option maxHeartbeats 20000000
set_option linter.all false
namespace Go.Proofs.YtjhfloacokgdiaaGreatDoor.Sc
open Go
theorem disable (w:World):(callFunc 194 #[]).run Tryz.prog w=.ok (.value (.tuple #[])) w:=run_call_mark0 Tryz.func194 (by kernel_rfl) (by kernel_rfl) (by kernel_rfl) .disable (by kernel_rfl) w
theorem enable (w:World):(callFunc 196 #[]).run Tryz.prog w=.ok (.value (.tuple #[])) w:=run_call_mark0 Tryz.func196 (by kernel_rfl) (by kernel_rfl) (by kernel_rfl) .enable (by kernel_rfl) w
theorem acquire (a:Addr)(w:World):(callFunc 197 #[.pointer (some a)]).run Tryz.prog w=.ok (.value (.tuple #[])) w:=run_call_marked Tryz.func197 (by kernel_rfl) (by kernel_rfl) (by kernel_rfl) .acquire (by kernel_rfl) a w
theorem releaseMerge (a:Addr)(w:World):(callFunc 199 #[.pointer (some a)]).run Tryz.prog w=.ok (.value (.tuple #[])) w:=run_call_marked Tryz.func199 (by kernel_rfl) (by kernel_rfl) (by kernel_rfl) .releaseMerge (by kernel_rfl) a w
theorem lock_in (a:Addr)(w:World)(hc:w.cell? a=some (.int .i32 0))(hz:w.frozen? a=false) :
  Calls Tryz.prog 181 #[.pointer (some a)] w fun e w'=>e=.returned (.tuple #[])/\w'=w.setCell a (.int .i32 1):=by
 have hd:=disable;have he:=enable;have ha:=acquire;have hcas:=run_call_cas_hit (P:=Tryz.prog) Tryz.func195 (by kernel_rfl) (by kernel_rfl) (by kernel_rfl) .i32 (by kernel_rfl) (y:=1) hc hz;have hc':(w.setCell a (.int .i32 1)).cell? a=some (.int .i32 1):=World.cell?_setCell_same w a _ hc;have hcv:=run_convert_to_unsafe (P:=Tryz.prog) (src:=224) (dst:=117) Tryz.underlying224 Tryz.underlying117 (by kernel_rfl) hc';go_enter Tryz.func181,Tryz.ntmps181;go_wp2;first|go_end0 |(simp only[Exit.inBlock,Exit.then];refine bodyPost_ret (results_none rfl _ _ _) rfl ?_)|refine bodyPost_ret (results_none rfl _ _ _) rfl ?_
 all_goals(go_wp2<;>(go_end0<;>exact⟨rfl,rfl⟩))
theorem lock_free (a:Addr)(w:World)(hc:w.cell? a=some (.int .i32 0))(hz:w.frozen? a=false) :
  Calls Tryz.prog 168 #[.pointer (some a)] w fun e w'=>e=.returned (.tuple #[])/\w'=w.setCell a (.int .i32 1):=by
 go_enter Tryz.func168,Tryz.ntmps168;go_wp2_with (go_at_call 181;refine(lock_in a _ hc hz).mono ?_;rintro e w' ⟨rfl,rfl⟩)
 go_end0;exact⟨rfl,rfl⟩
theorem c7X (a:Addr)(w:World)(hc:w.cell? a=some (.int .i32 1))(hz:w.frozen? a=false) :
  Calls Tryz.prog 182 #[.pointer (some a)] w fun e w'=>e=.returned (.tuple #[])/\w'=w.setCell a (.int .i32 0):=by
 have hd:=disable;have he:=enable;have hr:=releaseMerge;have hadd:=run_call_add (P:=Tryz.prog) Tryz.func200 (by kernel_rfl) (by kernel_rfl) (by kernel_rfl) .i32 (by kernel_rfl) (y:=-1) (s:=0) hc hz (by simp[go_sem];rfl);have hcv:=run_convert_to_unsafe (P:=Tryz.prog) (src:=224) (dst:=117) Tryz.underlying224 Tryz.underlying117 (by kernel_rfl) hc;go_enter Tryz.func182,Tryz.ntmps182;go_wp2;go_end0;all_goals(go_wp2<;>(go_end0<;>exact⟨rfl,rfl⟩))
theorem unlock_deferred (a:Addr)(u:FrameMode)(w:World)(hc:w.cell? a=some (.int .i32 1))(hz:w.frozen? a=false) :
  CallsD Tryz.prog 169 #[.pointer (some a)] u w fun e u' w'=>u'=u/\(e=.returned (.tuple #[])/\w'=w.setCell a (.int .i32 0)):=by
 go_enter_d Tryz.func169,Tryz.ntmps169;go_wp2_with (go_at_call 182;refine(c7X a _ hc hz).mono ?_;rintro e w' ⟨rfl,rfl⟩)
 go_end0;exact⟨rfl,rfl⟩
theorem b8c (a:Addr)(x:Value)(u:FrameMode)(w:World)(hc:w.cell? a=some x)(hz:w.frozen? a=false) :
  CallsD Tryz.prog 170 #[.pointer (some a),.bool true] u w fun e u' w'=>u'=u/\(e=.returned (.tuple #[])/\w'=w.drew.setCell a (.int .u32 1)):=by
 have hc':w.drew.cell? a=some x:=by go_simp
 have hz':w.drew.frozen? a=false:=by go_simp
 have hst:=run_call_store (P:=Tryz.prog) Tryz.func183 (by kernel_rfl) (by kernel_rfl) (by kernel_rfl) (by kernel_rfl) (k:=.u32) (y:=1) hc' hz';go_enter_d Tryz.func170,Tryz.ntmps170;go_wp2;go_region_calls;all_goals(go_end0;exact⟨rfl,rfl⟩)
end Go.Proofs.YtjhfloacokgdiaaGreatDoor.Sc
