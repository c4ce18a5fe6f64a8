/- ParseRecovers returns true for every input whose lists and strings can be counted by an int, as the row has it; what it was handed reads as it did. The row lists package-level variables with what they hold; the card ties them to the program's text, by the translator's report. -/
import Derived.Test.YtjhfloacokgdiaaGreatDoorParseRecoversJ20
import Derived.Test.YtjhfloacokgdiaaGreatDoorCards
import Derived.Test.YtjhfloacokgdiaaGreatDoorTie
import Derived.Below
import Derived.WalkKit
import Derived.ProofKit
import Derived.OpenShut
import Derived.ChangeStays
import Derived.ReadAgain
import Derived.Deep.DeepHandedRow
import Derived.Deep.DeepWitnessRowRef
import Derived.Lib.LaidIn
import Derived.Stop.LaidErr
import Derived.Lib.LaidTab
set_option maxRecDepth 100000
set_option maxHeartbeats 20000000
set_option linter.all false
namespace Go.Proofs.YtjhfloacokgdiaaGreatDoor
open Go Go.Vm Go.ChangeShapes Go.WideShapes Go.ChangeAt Go.RowKit
open Go.ChangeMaps (open_string shut_string)
namespace RowParseRecovers
section
variable {H:Type} {enc:TypeId×Value->H} {P:Program}
theorem b8F {f:Func}{s:ChangeSpec}{apart fresh handsOn again:Bool}{W W':World}{args:Array Value}{v:Value}{ds gs:List (DataW H)}{before pa pv:List MemPlace}
  (hW:DataW.Whole enc P f.params.toList s.vars apart W args.toList ds gs before)
  (hres:∀(b:Nat) (sp:Nat->Bool) (hd:Bool),DataW.TrodAll enc P W' b sp hd f.resultTypes.toList (v.resultList f.resultTypes.size) (s.fn H (ds++gs)).results [])
  (hargs:∀sp:Nat->Bool,(∀p∈before,sp p.block=true)->DataW.TrodAll enc P W' 0 sp true f.params.toList args.toList (s.fn H (ds++gs)).args pa)
  (hvars:∀sp:Nat->Bool,(∀p∈before,sp p.block=true)->DataW.TrodVars enc P W' sp s.vars (s.fn H (ds++gs)).vars pv)
  (hps:before=pa++pv) (hb:Below W.heap.size W W')
  (hok:∀(j:Nat) (t:TypeId) (r:Value),f.resultTypes[j]? = some t ->(v.resultList f.resultTypes.size)[j]? = some r->Value.okWide P W' .any 0 t r) :
  s.post enc P f apart fresh handsOn again W args v W':=by
 have hlt:∀p∈before,p.block<W.heap.size:=fun p hp=>hW.lt p hp
 have hold:∀p∈before,(fun b=>decide (b<W.heap.size)) p.block=true:=fun p hp=>by simpa using hlt p hp
 refine⟨ds,gs,before,[],pa,pv,hW,hres _ _ _,hargs _ hold,hvars _ hold,World.keptBut_mono (fun p hp=>⟨hp,?_⟩) (hb.frame (· ∈ before)),fun _=>?_⟩
 ·rw[hps,List.mem_append]at hp
  exact Or.inr hp
 ·obtain⟨_,_,_,_,_,hz,hn⟩:=hW
  refine⟨hok,_,_,([]++pa)++pv,⟨[]++pa,pv,trodAll_append (hargs _ (fun _ _=>rfl)) (hres _ _ _),hvars _ (fun _ _=>rfl),rfl,?_,?_⟩,?_⟩
  ·intro b off hp
   have hin:MemPlace.cell b off∈before:=by rw[hps];simpa using hp
   rw[hb.frozen (hlt _ hin)]
   exact hz b off hin
  ·intro ha
   have:=hn ha
   rw[hps]at this
   simpa using this
  ·intro p hp _
   rw[hps]
   simpa using hp
end
theorem own:ownKnob Tryz.prog.godebug=none:=by kernel_rfl
theorem kids:Kids Tryz.prog (· < Tryz.prog.types.size):=kids_rows (by kernel_rfl) (by kernel_rfl)
theorem slicesFull:∀{t e:TypeId},t<Tryz.prog.types.size->Tryz.prog.underlying t=some (.slice e)->0<Tryz.prog.cellsOf e:=fun{t e}=>slices_full_of Tryz.prog (by kernel_rfl) t e
theorem size29:29<Tryz.prog.types.size:=of_decide_eq_true (by kernel_rfl)
theorem a4Z {P:Program}{n:String}{d:DataW Unit}{r:List (String×DataW Unit)}{w:World}(h:laidMet P ((n,d)::r) w):laidMet P r w:=by
 obtain⟨ps,h1,h2,h3⟩:=h
 obtain⟨g,t,cs,fuel,p,q,a1,a2,a3,a4,a5,rfl⟩:=h1
 exact⟨q,a5,(List.nodup_append.1 h2).2.1,fun b off hp=>h3 b off (List.mem_append_right _ hp)⟩
theorem tab_eq0:(Rows.laid_internal_strconv_uint64pow10:DataW Unit)=Lib.tabData .u64 Lib.pow10Tab:=by kernel_rfl
theorem kp_of0 {W:World}(hL:laidMet Tryz.prog Rows.parseRecoversRow.laid W):5<W.heap.size /\ ∃t fr,W.heap[5]? = some (.cells kpTab t fr):=by
 have hT:laidMet Tryz.prog (("internal/strconv.uint64pow10",Rows.laid_internal_strconv_uint64pow10)::_) W:=(a4Z (a4Z hL))
 rw[tab_eq0]at hT
 have h:=Lib.tabIs_of_head (P:=Tryz.prog) (W:=W) (name:="internal/strconv.uint64pow10") (k:=.u64) (zs:=Lib.pow10Tab) (g:=5) (t:=200) (e:=178) (n:=20) (by kernel_rfl) (by kernel_rfl) Tryz.underlying200 Tryz.underlying178 (by kernel_rfl) (by kernel_rfl) hT
 unfold Lib.TabIs World.var? at h
 rw[show Tryz.prog.globalNamed "internal/strconv.uint64pow10" = some 5 by kernel_rfl,Option.bind_some]at h
 split at h
 ·rename_i cs t fr e
  refine⟨?_,t,fr,?_⟩
  ·rcases Nat.lt_or_ge 5 W.heap.size with h1|h1
   ·exact h1
   ·rw[Array.getElem?_eq_none h1]at e;cases e
  ·rw[e];cases h;rfl
 ·cases h
theorem tab_eq1:(Rows.laid_strings_asciiSpace:DataW Unit)=Lib.tabData .u8 Lib.asciiSpaceTab:=by kernel_rfl
theorem kp_of1 {W:World}(hL:laidMet Tryz.prog Rows.parseRecoversRow.laid W):0<W.heap.size /\ ∃t fr,W.heap[0]? = some (.cells spTab t fr):=by
 have hT:laidMet Tryz.prog (("strings.asciiSpace",Rows.laid_strings_asciiSpace)::_) W:=(a4Z (a4Z (a4Z (a4Z (a4Z (a4Z (a4Z hL)))))))
 rw[tab_eq1]at hT
 have h:=Lib.tabIs_of_head (P:=Tryz.prog) (W:=W) (name:="strings.asciiSpace") (k:=.u8) (zs:=Lib.asciiSpaceTab) (g:=0) (t:=100) (e:=5) (n:=256) (by kernel_rfl) (by kernel_rfl) Tryz.underlying100 Tryz.underlying5 (by kernel_rfl) (by kernel_rfl) hT
 unfold Lib.TabIs World.var? at h
 rw[show Tryz.prog.globalNamed "strings.asciiSpace" = some 0 by kernel_rfl,Option.bind_some]at h
 split at h
 ·rename_i cs t fr e
  refine⟨?_,t,fr,?_⟩
  ·rcases Nat.lt_or_ge 0 W.heap.size with h1|h1
   ·exact h1
   ·rw[Array.getElem?_eq_none h1]at e;cases e
  ·rw[e];cases h;rfl
 ·cases h
theorem kp_of {W:World}(hL:laidMet Tryz.prog Rows.parseRecoversRow.laid W):KpW W:=fun p hp=>by
 rcases List.mem_cons.1 hp with rfl|hp
 ·exact kp_of0 hL
 rcases List.mem_cons.1 hp with rfl|hp
 ·exact kp_of1 hL
 cases hp
noncomputable def b3g (os:Os):World :=
 let N:=(World.settled Tryz.prog os).heap.size
 let us (l:List Int):Array Value:=(l.map (Value.int .u8)).toArray
 let w0:=World.holding Tryz.prog os ⟨#[.cells #[.string ⟨#[118,97,108,117,101,32,111,117,116,32,111,102,32,114,97,110,103,101]⟩] 247,.cells #[.string ⟨#[105,110,118,97,108,105,100,32,115,121,110,116,97,120]⟩] 247,.cells #[.int .u16 9,.int .u16 13,.int .u16 1,.int .u16 32,.int .u16 133,.int .u16 101,.int .u16 160,.int .u16 5760,.int .u16 5600,.int .u16 8192,.int .u16 8202,.int .u16 1,.int .u16 8232,.int .u16 8233,.int .u16 1,.int .u16 8239,.int .u16 8287,.int .u16 48,.int .u16 12288,.int .u16 12288,.int .u16 1] 145,.cells #[.slice (some ⟨N+2,0,none⟩) 7 7,.slice none 0 0,.int .i64 2] 142],#[],[]⟩
 let put (h:Array Go.Obj) (g:Nat) (cs:Array Value):Array Go.Obj:=h.modify g fun
  | .cells _ t frozen=>.cells cs t frozen
  | o=>o
 let h1:=put w0.heap 8 (us [0,1,28,2,29,14,24,3,30,22,20,15,25,17,4,8,31,27,13,23,21,19,16,7,26,12,18,6,11,5,10,9])
 let h2:=put h1 9 (us [0,1,56,2,57,49,28,3,61,58,42,50,38,29,17,4,62,47,59,36,45,43,51,22,53,39,33,30,24,18,12,5,63,55,48,27,60,41,37,16,46,35,44,21,52,32,23,11,54,26,40,15,34,20,31,10,25,14,19,9,13,8,7,6])
 let h3:=put h2 5 #[.int .u64 1,.int .u64 10,.int .u64 100,.int .u64 1000,.int .u64 10000,.int .u64 100000,.int .u64 1000000,.int .u64 10000000,.int .u64 100000000,.int .u64 1000000000,.int .u64 10000000000,.int .u64 100000000000,.int .u64 1000000000000,.int .u64 10000000000000,.int .u64 100000000000000,.int .u64 1000000000000000,.int .u64 10000000000000000,.int .u64 100000000000000000,.int .u64 1000000000000000000,.int .u64 10000000000000000000]
 let h4:=put h3 3 (us [128,191,160,191,128,159,144,191,128,143,0,0,0,0,0,0,0,0,0,0,0,0,0,0,0,0,0,0,0,0,0,0])
 let h5:=put h4 7 #[.iface 245 (.pointer (some ⟨N+0,0,none⟩))]
 let h6:=put h5 6 #[.iface 245 (.pointer (some ⟨N+1,0,none⟩))]
 let h7:=put h6 1 #[.pointer (some ⟨N+3,0,none⟩)]
 let h8:=put h7 0 (us [0,0,0,0,0,0,0,0,0,1,1,1,1,1,0,0,0,0,0,0,0,0,0,0,0,0,0,0,0,0,0,0,1,0,0,0,0,0,0,0,0,0,0,0,0,0,0,0,0,0,0,0,0,0,0,0,0,0,0,0,0,0,0,0,0,0,0,0,0,0,0,0,0,0,0,0,0,0,0,0,0,0,0,0,0,0,0,0,0,0,0,0,0,0,0,0,0,0,0,0,0,0,0,0,0,0,0,0,0,0,0,0,0,0,0,0,0,0,0,0,0,0,0,0,0,0,0,0,0,0,0,0,0,0,0,0,0,0,0,0,0,0,0,0,0,0,0,0,0,0,0,0,0,0,0,0,0,0,0,0,0,0,0,0,0,0,0,0,0,0,0,0,0,0,0,0,0,0,0,0,0,0,0,0,0,0,0,0,0,0,0,0,0,0,0,0,0,0,0,0,0,0,0,0,0,0,0,0,0,0,0,0,0,0,0,0,0,0,0,0,0,0,0,0,0,0,0,0,0,0,0,0,0,0,0,0,0,0,0,0,0,0,0,0,0,0,0,0,0,0,0,0,0,0,0,0])
 let h9:=put h8 2 (us [240,240,240,240,240,240,240,240,240,240,240,240,240,240,240,240,240,240,240,240,240,240,240,240,240,240,240,240,240,240,240,240,240,240,240,240,240,240,240,240,240,240,240,240,240,240,240,240,240,240,240,240,240,240,240,240,240,240,240,240,240,240,240,240,240,240,240,240,240,240,240,240,240,240,240,240,240,240,240,240,240,240,240,240,240,240,240,240,240,240,240,240,240,240,240,240,240,240,240,240,240,240,240,240,240,240,240,240,240,240,240,240,240,240,240,240,240,240,240,240,240,240,240,240,240,240,240,240,241,241,241,241,241,241,241,241,241,241,241,241,241,241,241,241,241,241,241,241,241,241,241,241,241,241,241,241,241,241,241,241,241,241,241,241,241,241,241,241,241,241,241,241,241,241,241,241,241,241,241,241,241,241,241,241,241,241,241,241,241,241,241,241,241,241,2,2,2,2,2,2,2,2,2,2,2,2,2,2,2,2,2,2,2,2,2,2,2,2,2,2,2,2,2,2,19,3,3,3,3,3,3,3,3,3,3,3,3,35,3,3,52,4,4,4,68,241,241,241,241,241,241,241,241,241,241,241])
 {w0 with heap:=h9}
noncomputable abbrev N0:Nat:=(World.settled Tryz.prog default).heap.size
theorem laid_met (os:Os)(args:Array Value):laidMet Tryz.prog Rows.parseRecoversRow.laid ((b3g os).forCall (fun _ _=>0) ⟨#[],args,[]⟩).memory :=
 (LaidIn.of_run (l:=Rows.parseRecoversRow.laid) [8,9,5,3,7,N0+0,6,N0+1,1,N0+2,N0+3,0,2] 8 (by kernel_rfl) (by kernel_rfl) (by kernel_rfl) (by kernel_rfl)).met
theorem reads (os:Os){H:Type}(enc:TypeId×Value->H):(OpenSpec.ofChange Rows.parseRecoversSpec).preRow enc Tryz.prog Tryz.f3 Rows.parseRecoversRow.domain false Rows.parseRecoversRow.laid ((b3g os).forCall (fun _ _=>0) ⟨#[],#[.string ⟨#[]⟩],[]⟩).memory #[.string ⟨#[]⟩]:=by
  have hw:(DataW.whole enc Tryz.prog ((b3g os).forCall (fun _ _=>0) ⟨#[],#[.string ⟨#[]⟩],[]⟩).memory Tryz.f3.params.toList Rows.parseRecoversSpec.vars false #[Value.string ⟨#[]⟩].toList 8).map (fun x=>(x.1,x.2.1)) =
      some ([.lit (.string [])],[]):=by kernel_rfl
  obtain⟨⟨x1,x2,x3⟩,hx,hx1⟩:=Option.map_eq_some_iff.1 hw
  simp only[Prod.mk.injEq]at hx1
  obtain⟨rfl,rfl⟩:=hx1
  exact OpenSpec.preRow_of_cond 8 hx (by kernel_rfl) (fun k hk=>by cases hk) (by kernel_rfl) (laid_met os _)
theorem contract (H:Type)(enc:TypeId×Value->H)(W:World)(base:Nat)(args:Array Value)(ds gs:List (DataW H))(before:List MemPlace)
  (hval:∀(j:Nat) t v,Tryz.f3.params[j]? = some t->args[j]? = some v->Value.okWide Tryz.prog W .any base t v)
  (hW:DataW.Whole enc Tryz.prog Tryz.f3.params.toList Rows.parseRecoversSpec.vars false W args.toList ds gs before) (hkp:KpW W) :
  Calls Tryz.prog 3 args W fun e W'=>∃v,e=.returned v/\Rows.parseRecoversSpec.post enc Tryz.prog Tryz.f3 false true false false W args v W':=by
 have hW':=hW
 have hlt0:=hW.lt
 obtain⟨p,q,hA0,hV,rfl,hfz,hnd⟩:=hW
 have hA:DataW.TrodAll enc Tryz.prog W 0 (fun _=>true) true Tryz.f3.params.toList args.toList ds p:=hA0
 rw[Tryz.params3]at hA hval
 obtain⟨v0,vs0,d0,ds0,p0,q0,ha0,rfl,rfl,h0,r0⟩:=trodAll_cons hA
 obtain⟨rfl,rfl,rfl⟩:=trodAll_nil r0
 obtain rfl:args = #[v0]:=by cases args;simp_all
 obtain⟨rfl,rfl⟩:=trodVars_none hV
 obtain⟨n0,rfl,rfl,rfl,w0⟩:=open_string Tryz.underlying9 (hval 0 9 v0 rfl rfl) h0
 clear hA0
 simp only[List.append_nil,List.nil_append]at hW' hlt0
 have hlt:=hlt0
 refine(c3L b6X hkp (w:=W) (c7V _) (E9.2 ⟨_,_,rfl,.str n0.data.toList,b7U⟩)).mono fun e W' ⟨he,hb⟩=>?_
 subst he
 exact⟨_,rfl,b8F (pa:=_) (pv:=[]) hW' (fun _ _ _=>trodAll_mk1 (shut_bool Tryz.underlying4 true)) (fun sp hs=>trodAll_cons_mk (shut_string Tryz.underlying9 w0) (trodAll_mk0)) (fun _ _=>rfl) (by simp) hb (ok_one (by kernel_rfl) rfl (okWide_bool_mk Tryz.underlying4 true))⟩
theorem lifted (os:Os)(started:os.Started)(H:Type)(enc:TypeId×Value->H)(F:Stop.Interp) :
  ReturnsInHanded {} Tryz.checked os 3 .any ((OpenSpec.ofChange Rows.parseRecoversSpec).preRow enc Tryz.prog Tryz.f3 Rows.parseRecoversRow.domain false Rows.parseRecoversRow.laid) (((OpenSpec.ofChange Rows.parseRecoversSpec).at F).post enc Tryz.prog Tryz.f3 false true false false):=by
 refine returnsInHanded_of_row (C:=Tryz.checked) (s:=OpenSpec.ofChange Rows.parseRecoversSpec) own started (by kernel_rfl) Tryz.func3
  (witness_row_atRef (enc:=enc) (C:=Tryz.checked) false (b3g os) #[.string ⟨#[]⟩] rfl (by kernel_rfl) (by kernel_rfl) (by kernel_rfl) (reads os enc)) ?_
 intro W base args ds gs before hval hW _ _ _ hL _ _
 exact contract H enc W base args ds gs before hval hW (kp_of hL)
theorem a2M {a b:Bool}(ha:a=true)(hb:b=true):(a&&b)=true:=by rw[ha,hb];rfl
theorem c7b:laidOutB Tryz.prog=true:=by kernel_rfl
theorem c2f:mapsRowed Tryz.prog=true:=by kernel_rfl
theorem c7a:(Rows.parseRecoversRow.inPlace==Tryz.prog.inPlace 3)=true:=by kernel_rfl
theorem c0s:(Rows.parseRecoversRow.unfollowed==Tryz.prog.unfollowed 3)=true:=by kernel_rfl
theorem c4j:(Rows.parseRecoversRow.recurses==Tryz.prog.recurses 3)=true:=by kernel_rfl
theorem k_named:(Rows.parseRecoversRow.named==Tryz.prog.varsNamed 3)=true:=by kernel_rfl
theorem c2g:(Rows.parseRecoversRow.plainKeys==Tryz.prog.plainKeys)=true:=by kernel_rfl
theorem c0r:Tryz.prog.stopsHeard=true:=by kernel_rfl
theorem c4i:Tryz.prog.mayEnter=true:=by kernel_rfl
theorem k_lifted:(Rows.parseRecoversRow.lifted==Tryz.prog.liftsFinal)=true:=by kernel_rfl
theorem k_make:(Tryz.prog.make==some Rows.parseRecoversRow.make)=true:=by kernel_rfl
theorem closed:joinedFacts Tryz.prog 3 Tryz.f3 (OpenSpec.ofChange Rows.parseRecoversSpec).bare Rows.parseRecoversRow=true:=by
 unfold joinedFacts
 exact(a2M (a2M (a2M (a2M (a2M (a2M (a2M (a2M (a2M (a2M (a2M (a2M (a2M (a2M (a2M (a2M (a2M (a2M (a2M (a2M (a2M (a2M (a2M (a2M (a2M (a2M (a2M (a2M (a2M (a2M (a2M (by kernel_rfl) c7b) c2f) (by kernel_rfl)) (by kernel_rfl)) (by kernel_rfl)) (by kernel_rfl)) (by kernel_rfl)) (by kernel_rfl)) c7a) c0s) c4j) k_named) (by kernel_rfl)) (by kernel_rfl)) (by kernel_rfl)) (by kernel_rfl)) (by kernel_rfl)) (by kernel_rfl)) (by kernel_rfl)) (by kernel_rfl)) (by kernel_rfl)) c2g) (by kernel_rfl)) c0r) c4i) k_lifted) k_make) (by kernel_rfl)) (by kernel_rfl)) (by kernel_rfl)) (by kernel_rfl))
theorem said:Rows.ParseRecoversSaid :=
 OpenClaim.holds_of_cond 3 Tryz.f3 rfl rfl rfl rfl rfl rfl rfl ⟨rfl,rfl,rfl,rfl,rfl⟩ rfl rfl rfl rfl rfl (by kernel_rfl) Tryz.func3 closed
  (of_decide_eq_true (by kernel_rfl)) (by unfold Func.isWrapper;first |(rw[if_pos (by decide +kernel)];kernel_rfl) |(rw[if_neg (by decide +kernel)];exact⟨rfl,rfl⟩))
  (fun os started H enc _ F=>by rw[OpenClaim.pre_eq_preRow];exact lifted os started H enc F)
theorem plain (f:FuncId) (fn:Func) (hf:Tryz.pinned.checked.prog.funcNamed "covalent/covalentlaw02.ParseRecovers" = some f) (hfn:Tryz.pinned.checked.prog.funcs[f]? = some fn) :
  true=Tryz.pinned.checked.prog.looks [] /\ ∀(j:Nat) t,fn.params[j]? = some t->Tryz.pinned.checked.prog.wantsStandIn t=false:=by
 obtain rfl:f=3:=Option.some.inj ((show Tryz.prog.funcNamed "covalent/covalentlaw02.ParseRecovers" = some 3 by kernel_rfl).symm.trans hf) |>.symm
 obtain rfl:fn=Tryz.f3:=(Option.some.inj (Tryz.func3.symm.trans hfn)).symm
 refine⟨by kernel_rfl,fun j t ht=>?_⟩
 rw[Tryz.params3]at ht
 have ht:=Array.mem_of_getElem? ht
 simp only[List.mem_toArray,List.mem_cons,List.not_mem_nil,or_false]at ht
 rcases ht with rfl
 ·exact(show Tryz.prog.wantsStandIn 9=false by kernel_rfl)
theorem holds:Rows.ParseRecoversCardSaid :=
 Claim7.holds_tied_plain_at .later [] _ _ _ _ said (fun _ h=>by cases h) (by kernel_rfl) (fun _ h=>by cases h) parseRecovers_row_tie rfl ⟨rfl,rfl⟩ (by kernel_rfl) rfl plain (by kernel_rfl)
end RowParseRecovers
end Go.Proofs.YtjhfloacokgdiaaGreatDoor
