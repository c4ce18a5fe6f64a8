/- ParseValid returns true for every input whose lists and strings can be counted by an int, as the row has it; what it was handed reads as it did. The row lists package-level variables with what they hold; the card ties them to the program's text, by the translator's report. -/
import Derived.Test.YtimgnjbjbdgmaaaGreatDoorParseValidJ33
import Derived.Test.YtimgnjbjbdgmaaaGreatDoorCards
import Derived.Test.YtimgnjbjbdgmaaaGreatDoorTie
import Derived.Below
import Derived.SizedLaws
import Derived.WalkKit
import Derived.ProofKit
import Derived.OpenShut
import Derived.ChangeStays
import Derived.ReadAgain
import Derived.Deep.DeepHandedRow
import Derived.Deep.DeepWitnessRowRef
import Derived.Lib.LaidIn
import Derived.Stop.LaidErr
import Derived.Lib.LaidTab
set_option maxRecDepth 100000
set_option maxHeartbeats 20000000
set_option linter.all false
namespace Go.Proofs.YtimgnjbjbdgmaaaGreatDoor
open Go Go.Vm Go.ChangeShapes Go.WideShapes Go.ChangeAt Go.RowKit
open Go.ChangeMaps (open_string shut_string)
namespace RowParseValid
section
variable {H:Type} {enc:TypeId×Value->H} {P:Program}
theorem b9N {f:Func}{s:ChangeSpec}{apart fresh handsOn again:Bool}{W W':World}{args:Array Value}{v:Value}{ds gs:List (DataW H)}{before pa pv:List MemPlace}
  (hW:DataW.Whole enc P f.params.toList s.vars apart W args.toList ds gs before)
  (hres:∀(b:Nat) (sp:Nat->Bool) (hd:Bool),DataW.TrodAll enc P W' b sp hd f.resultTypes.toList (v.resultList f.resultTypes.size) (s.fn H (ds++gs)).results [])
  (hargs:∀sp:Nat->Bool,(∀p∈before,sp p.block=true)->DataW.TrodAll enc P W' 0 sp true f.params.toList args.toList (s.fn H (ds++gs)).args pa)
  (hvars:∀sp:Nat->Bool,(∀p∈before,sp p.block=true)->DataW.TrodVars enc P W' sp s.vars (s.fn H (ds++gs)).vars pv)
  (hps:before=pa++pv) (hb:Below W.heap.size W W')
  (hok:∀(j:Nat) (t:TypeId) (r:Value),f.resultTypes[j]? = some t ->(v.resultList f.resultTypes.size)[j]? = some r->Value.okWide P W' .any 0 t r) :
  s.post enc P f apart fresh handsOn again W args v W':=by
 have hlt:∀p∈before,p.block<W.heap.size:=fun p hp=>hW.lt p hp
 have hold:∀p∈before,(fun b=>decide (b<W.heap.size)) p.block=true:=fun p hp=>by simpa using hlt p hp
 refine⟨ds,gs,before,[],pa,pv,hW,hres _ _ _,hargs _ hold,hvars _ hold,World.keptBut_mono (fun p hp=>⟨hp,?_⟩) (hb.frame (· ∈ before)),fun _=>?_⟩
 ·rw[hps,List.mem_append]at hp
  exact Or.inr hp
 obtain⟨_,_,_,_,_,hz,hn⟩:=hW
 refine⟨hok,_,_,([]++pa)++pv,⟨[]++pa,pv,trodAll_append (hargs _ (fun _ _=>rfl)) (hres _ _ _),hvars _ (fun _ _=>rfl),rfl,?_,?_⟩,?_⟩
 ·intro b off hp
  have hin:MemPlace.cell b off∈before:=by rw[hps];simpa using hp
  rw[hb.frozen (hlt _ hin)]
  exact hz b off hin
 ·intro ha
  have:=hn ha
  rw[hps]at this
  simpa using this
 intro p hp _
 rw[hps]
 simpa using hp
end
theorem own:ownKnob Tryz.prog.godebug=none:=zKr
theorem kids:Kids Tryz.prog (· < Tryz.prog.types.size):=kids_rows zKr zKr
theorem c6z:∀{t e:TypeId},t<Tryz.prog.types.size->Tryz.prog.underlying t=some (.slice e)->0<Tryz.prog.cellsOf e:=fun{t e}=>slices_full_of Tryz.prog zKr t e
theorem size27:27<Tryz.prog.types.size:=of_decide_eq_true zKr
theorem c0p {P:Program}{n:String}{d:DataW Unit}{r:List (String×DataW Unit)}{w:World}(h:laidMet P ((n,d)::r) w):laidMet P r w:=by
 obtain⟨ps,h1,h2,h3⟩:=h
 obtain⟨g,t,cs,fuel,p,q,a1,a2,a3,a4,a5,rfl⟩:=h1
 exact⟨q,a5,(List.nodup_append.1 h2).2.1,fun b off hp=>h3 b off (List.mem_append_right _ hp)⟩
theorem tab_eq0:(Rows.laid_internal_strconv_uint64pow10:DataW Unit)=Lib.tabData .u64 Lib.pow10Tab:=zKr
theorem kp_of0 {W:World}(hL:laidMet Tryz.prog Rows.parseValidRow.laid W):1<W.heap.size /\ ∃t fr,W.heap[1]? = some (.cells kpTab t fr):=by
 have hT:laidMet Tryz.prog (("internal/strconv.uint64pow10",Rows.laid_internal_strconv_uint64pow10)::_) W:=(c0p (c0p hL))
 rw[tab_eq0]at hT
 have h:=Lib.tabIs_of_head (P:=Tryz.prog) (W:=W) (name:="internal/strconv.uint64pow10") (k:=.u64) (zs:=Lib.pow10Tab) (g:=1) (t:=197) (e:=188) (n:=20) zKr zKr Tryz.underlying197 Tryz.underlying188 zKr zKr hT
 unfold Lib.TabIs World.var? at h
 rw[show Tryz.prog.globalNamed "internal/strconv.uint64pow10" = some 1 by kernel_rfl,Option.bind_some]at h
 split at h
 ·rename_i cs t fr e
  refine⟨?_,t,fr,?_⟩
  ·rcases Nat.lt_or_ge 1 W.heap.size with h1|h1
   ·exact h1
   rw[Array.getElem?_eq_none h1]at e;cases e
  rw[e];cases h;rfl
 cases h
theorem kp_of {W:World}(hL:laidMet Tryz.prog Rows.parseValidRow.laid W):KpW W:=fun p hp=>by
 rcases List.mem_cons.1 hp with rfl|hp
 ·exact kp_of0 hL
 cases hp
noncomputable def b3W (os:Os):World :=
 let N:=(World.settled Tryz.prog os).heap.size
 let w0:=World.holding Tryz.prog os ⟨#[.cells #[.string ⟨#[118,97,108,117,101,32,111,117,116,32,111,102,32,114,97,110,103,101]⟩] 259,.cells #[.string ⟨#[105,110,118,97,108,105,100,32,115,121,110,116,97,120]⟩] 259],#[],[]⟩
 let put (h:Array Go.Obj) (g:Nat) (cs:Array Value):Array Go.Obj:=h.modify g fun
  | .cells _ t frozen=>.cells cs t frozen
  | o=>o
 let h1:=put w0.heap 2 #[.int .u8 0,.int .u8 1,.int .u8 28,.int .u8 2,.int .u8 29,.int .u8 14,.int .u8 24,.int .u8 3,.int .u8 30,.int .u8 22,.int .u8 20,.int .u8 15,.int .u8 25,.int .u8 17,.int .u8 4,.int .u8 8,.int .u8 31,.int .u8 27,.int .u8 13,.int .u8 23,.int .u8 21,.int .u8 19,.int .u8 16,.int .u8 7,.int .u8 26,.int .u8 12,.int .u8 18,.int .u8 6,.int .u8 11,.int .u8 5,.int .u8 10,.int .u8 9]
 let h2:=put h1 3 #[.int .u8 0,.int .u8 1,.int .u8 56,.int .u8 2,.int .u8 57,.int .u8 49,.int .u8 28,.int .u8 3,.int .u8 61,.int .u8 58,.int .u8 42,.int .u8 50,.int .u8 38,.int .u8 29,.int .u8 17,.int .u8 4,.int .u8 62,.int .u8 47,.int .u8 59,.int .u8 36,.int .u8 45,.int .u8 43,.int .u8 51,.int .u8 22,.int .u8 53,.int .u8 39,.int .u8 33,.int .u8 30,.int .u8 24,.int .u8 18,.int .u8 12,.int .u8 5,.int .u8 63,.int .u8 55,.int .u8 48,.int .u8 27,.int .u8 60,.int .u8 41,.int .u8 37,.int .u8 16,.int .u8 46,.int .u8 35,.int .u8 44,.int .u8 21,.int .u8 52,.int .u8 32,.int .u8 23,.int .u8 11,.int .u8 54,.int .u8 26,.int .u8 40,.int .u8 15,.int .u8 34,.int .u8 20,.int .u8 31,.int .u8 10,.int .u8 25,.int .u8 14,.int .u8 19,.int .u8 9,.int .u8 13,.int .u8 8,.int .u8 7,.int .u8 6]
 let h3:=put h2 1 #[.int .u64 1,.int .u64 10,.int .u64 100,.int .u64 1000,.int .u64 10000,.int .u64 100000,.int .u64 1000000,.int .u64 10000000,.int .u64 100000000,.int .u64 1000000000,.int .u64 10000000000,.int .u64 100000000000,.int .u64 1000000000000,.int .u64 10000000000000,.int .u64 100000000000000,.int .u64 1000000000000000,.int .u64 10000000000000000,.int .u64 100000000000000000,.int .u64 1000000000000000000,.int .u64 10000000000000000000]
 let h4:=put h3 5 #[.iface 257 (.pointer (some ⟨N+0,0,none⟩))]
 let h5:=put h4 4 #[.iface 257 (.pointer (some ⟨N+1,0,none⟩))]
 {w0 with heap:=h5}
noncomputable abbrev N0:Nat:=(World.settled Tryz.prog default).heap.size
theorem laid_met (os:Os)(args:Array Value):laidMet Tryz.prog Rows.parseValidRow.laid ((b3W os).forCall (fun _ _=>0) ⟨#[],args,[]⟩).memory :=
 (LaidIn.of_run (l:=Rows.parseValidRow.laid) [2,3,1,5,N0+0,4,N0+1] 8 zKr zKr zKr zKr).met
theorem reads (os:Os){H:Type}(enc:TypeId×Value->H):(OpenSpec.ofChange Rows.parseValidSpec).preRow enc Tryz.prog Tryz.f3 Rows.parseValidRow.domain false Rows.parseValidRow.laid ((b3W os).forCall (fun _ _=>0) ⟨#[],#[.agg #[.int .i64 0,.string ⟨#[]⟩,.int .i64 0,.int .i64 0,.string ⟨#[]⟩,.int .i64 0,.slice none 0 0,.slice none 0 0,.slice none 0 0,.int .i64 0]],[]⟩).memory #[.agg #[.int .i64 0,.string ⟨#[]⟩,.int .i64 0,.int .i64 0,.string ⟨#[]⟩,.int .i64 0,.slice none 0 0,.slice none 0 0,.slice none 0 0,.int .i64 0]]:=by
  have hw:(DataW.whole enc Tryz.prog ((b3W os).forCall (fun _ _=>0) ⟨#[],#[.agg #[.int .i64 0,.string ⟨#[]⟩,.int .i64 0,.int .i64 0,.string ⟨#[]⟩,.int .i64 0,.slice none 0 0,.slice none 0 0,.slice none 0 0,.int .i64 0]],[]⟩).memory Tryz.f3.params.toList Rows.parseValidSpec.vars false #[Value.agg #[.int .i64 0,.string ⟨#[]⟩,.int .i64 0,.int .i64 0,.string ⟨#[]⟩,.int .i64 0,.slice none 0 0,.slice none 0 0,.slice none 0 0,.int .i64 0]].toList 8).map (fun x=>(x.1,x.2.1)) =
      some ([.agg [.lit (.int .i64 0),.lit (.string []),.lit (.int .i64 0),.agg [.lit (.int .i64 0),.lit (.string []),.lit (.int .i64 0),.nil],.nil,.nil,.lit (.int .i64 0)]],[]):=zKr
  obtain⟨⟨x1,x2,x3⟩,hx,hx1⟩:=Option.map_eq_some_iff.1 hw
  simp only[Prod.mk.injEq]at hx1
  obtain⟨rfl,rfl⟩:=hx1
  exact OpenSpec.preRow_of_cond 8 hx zKr (fun k hk=>by cases hk) zKr (laid_met os _)
theorem contract (H:Type)(enc:TypeId×Value->H)(W:World)(base:Nat)(args:Array Value)(ds gs:List (DataW H))(before:List MemPlace)
  (hval:∀(j:Nat) t v,Tryz.f3.params[j]? = some t->args[j]? = some v->Value.okWide Tryz.prog W .any base t v)
  (hW:DataW.Whole enc Tryz.prog Tryz.f3.params.toList Rows.parseValidSpec.vars false W args.toList ds gs before) (hSz:(DataW.weightsEach Tryz.prog (Tryz.f3.params.toList ++(OpenSpec.ofChange Rows.parseValidSpec).bare.plain.varTypes Tryz.prog) (ds++gs)).all (· <= reachBytes)=true) (hkp:KpW W) :
  Calls Tryz.prog 3 args W fun e W'=>∃v,e=.returned v/\Rows.parseValidSpec.post enc Tryz.prog Tryz.f3 false true false false W args v W':=by
 have hW':=hW
 have hlt0:=hW.lt
 obtain⟨p,q,hA0,hV,rfl,hfz,hnd⟩:=hW
 have hA:DataW.TrodAll enc Tryz.prog W 0 (fun _=>true) true Tryz.f3.params.toList args.toList ds p:=hA0
 rw[Tryz.params3]at hA hval
 obtain⟨v0,vs0,d0,ds0,p0,q0,ha0,rfl,rfl,h0,r0⟩:=trodAll_cons hA
 obtain⟨rfl,rfl,rfl⟩:=trodAll_nil r0
 obtain rfl:args = #[v0]:=by cases args;simp_all
 obtain⟨rfl,rfl⟩:=trodVars_none hV
 have h0k:=h0
 obtain⟨fu0,f0⟩:=h0
 have o0:=hval 0 27 v0 rfl rfl
 obtain⟨cs0,rfl,_,_⟩:∃cs,v0=.agg cs/\cs.size=Tryz.prog.cellsOf 27/\Row.okWide Tryz.prog W .any base 27 cs:=by
  unfold Value.okWide at o0
  rw[Tryz.underlying27]at o0
  exact o0
 have hw0:∀q∈d0.weights Tryz.prog 27,q<=140737488355328:=fun q hq=>by
  have h:=List.all_eq_true.1 hSz q (DataW.weights_mem_each (j:=0) (t:=27) rfl rfl q hq)
  exact Nat.le_trans (of_decide_eq_true h) zDe
 obtain⟨n0,z0,k0⟩:=rd_nod fu0 _ _ hw0 f0
 clear hA0
 simp only[List.append_nil,List.nil_append]at hW' hlt0
 have hlt:=hlt0
 refine(c5m b5j hkp (w:=W) (c9c _ k0) (F8.2 ⟨_,_,rfl,.agg _ cs0.toList z0.rel.1 z0.rel.2,b9j⟩)).mono fun e W' ⟨he,hb⟩=>?_
 subst he
 exact⟨_,rfl,b9N (pa:=_) (pv:=[]) hW' (fun _ _ _=>trodAll_mk1 (shut_bool Tryz.underlying4 true)) (fun sp hs=>trodAll_cons_mk (⟨fu0,DataW.trod_stays kids c6z (fun h=>by cases h) size27 f0 (fun p hp=>hb.same (hlt p (by simp[hp]))) (fun p hp=>hs p (by simp[hp]))⟩) (trodAll_mk0)) (fun _ _=>rfl) zSi hb (ok_one zKr rfl (okWide_bool_mk Tryz.underlying4 true))⟩
theorem lifted (os:Os)(started:os.Started)(H:Type)(enc:TypeId×Value->H)(F:Stop.Interp) :
  ReturnsInHanded {} Tryz.checked os 3 .any ((OpenSpec.ofChange Rows.parseValidSpec).preRow enc Tryz.prog Tryz.f3 Rows.parseValidRow.domain false Rows.parseValidRow.laid) (((OpenSpec.ofChange Rows.parseValidSpec).at F).post enc Tryz.prog Tryz.f3 false true false false):=by
 refine returnsInHanded_of_row (C:=Tryz.checked) (s:=OpenSpec.ofChange Rows.parseValidSpec) own started zKr Tryz.func3
  (witness_row_atRef (enc:=enc) (C:=Tryz.checked) false (b3W os) #[.agg #[.int .i64 0,.string ⟨#[]⟩,.int .i64 0,.int .i64 0,.string ⟨#[]⟩,.int .i64 0,.slice none 0 0,.slice none 0 0,.slice none 0 0,.int .i64 0]] rfl zKr zKr zKr (reads os enc)) ?_
 intro W base args ds gs before hval hW _ _ hS hL _ _
 exact contract H enc W base args ds gs before hval hW hS (kp_of hL)
theorem a5f {a b:Bool}(ha:a=true)(hb:b=true):(a&&b)=true:=by rw[ha,hb];rfl
theorem c8s:laidOutB Tryz.prog=true:=zKr
theorem c3w:mapsRowed Tryz.prog=true:=zKr
theorem c8r:(Rows.parseValidRow.inPlace==Tryz.prog.inPlace 3)=true:=zKr
theorem c1F:(Rows.parseValidRow.unfollowed==Tryz.prog.unfollowed 3)=true:=zKr
theorem c5R:(Rows.parseValidRow.recurses==Tryz.prog.recurses 3)=true:=zKr
theorem k_named:(Rows.parseValidRow.named==Tryz.prog.varsNamed 3)=true:=zKr
theorem c3x:(Rows.parseValidRow.plainKeys==Tryz.prog.plainKeys)=true:=zKr
theorem c1E:Tryz.prog.stopsHeard=true:=zKr
theorem c5Q:Tryz.prog.mayEnter=true:=zKr
theorem k_lifted:(Rows.parseValidRow.lifted==Tryz.prog.liftsFinal)=true:=zKr
theorem k_make:(Tryz.prog.make==some Rows.parseValidRow.make)=true:=zKr
theorem closed:joinedFacts Tryz.prog 3 Tryz.f3 (OpenSpec.ofChange Rows.parseValidSpec).bare Rows.parseValidRow=true:=by
 unfold joinedFacts
 exact(a5f (a5f (a5f (a5f (a5f (a5f (a5f (a5f (a5f (a5f (a5f (a5f (a5f (a5f (a5f (a5f (a5f (a5f (a5f (a5f (a5f (a5f (a5f (a5f (a5f (a5f (a5f (a5f (a5f (a5f (a5f zKr c8s) c3w) zKr) zKr) zKr) zKr) zKr) zKr) c8r) c1F) c5R) k_named) zKr) zKr) zKr) zKr) zKr) zKr) zKr) zKr) zKr) c3x) zKr) c1E) c5Q) k_lifted) k_make) zKr) zKr) zKr) zKr)
theorem said:Rows.ParseValidSaid :=
 OpenClaim.holds_of_cond 3 Tryz.f3 rfl rfl rfl rfl rfl rfl rfl ⟨rfl,rfl,rfl,rfl,rfl⟩ rfl rfl rfl rfl rfl zKr Tryz.func3 closed
  (of_decide_eq_true zKr) (by unfold Func.isWrapper;first |(rw[if_pos (by decide +kernel)];kernel_rfl) |(rw[if_neg (by decide +kernel)];exact⟨rfl,rfl⟩))
  (fun os started H enc _ F=>by rw[OpenClaim.pre_eq_preRow];exact lifted os started H enc F)
theorem plain (f:FuncId) (fn:Func) (hf:Tryz.pinned.checked.prog.funcNamed "covalent/covalentlaw02.ParseValid" = some f) (hfn:Tryz.pinned.checked.prog.funcs[f]? = some fn) :
  true=Tryz.pinned.checked.prog.looks [] /\ ∀(j:Nat) t,fn.params[j]? = some t->Tryz.pinned.checked.prog.wantsStandIn t=false:=by
 obtain rfl:f=3:=Option.some.inj ((show Tryz.prog.funcNamed "covalent/covalentlaw02.ParseValid" = some 3 by kernel_rfl).symm.trans hf) |>.symm
 obtain rfl:fn=Tryz.f3:=(Option.some.inj (Tryz.func3.symm.trans hfn)).symm
 refine⟨zKr,fun j t ht=>?_⟩
 rw[Tryz.params3]at ht
 have ht:=Array.mem_of_getElem? ht
 simp only[List.mem_toArray,List.mem_cons,List.not_mem_nil,or_false]at ht
 rcases ht with rfl
 exact(show Tryz.prog.wantsStandIn 27=false by kernel_rfl)
theorem holds:Rows.ParseValidCardSaid :=
 Claim7.holds_tied_plain_at .later [] _ _ _ _ said (fun _ h=>by cases h) zKr (fun _ h=>by cases h) parseValid_row_tie rfl ⟨rfl,rfl⟩ zKr rfl plain zKr
end RowParseValid
end Go.Proofs.YtimgnjbjbdgmaaaGreatDoor
