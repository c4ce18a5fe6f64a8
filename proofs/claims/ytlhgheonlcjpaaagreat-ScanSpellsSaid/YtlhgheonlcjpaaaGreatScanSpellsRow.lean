/- ScanSpells returns true for every slice of tokens; what it was handed reads as it did. There is no condition beyond the row's own. -/
import Derived.Test.YtlhgheonlcjpaaaGreatScanSpellsJ8
import Derived.Test.YtlhgheonlcjpaaaGreatRows
import Derived.ProofKit
import Derived.Below
import Derived.WalkKit
import Derived.OpenShut
import Derived.ChangeStays
import Derived.ReadAgain
import Derived.Deep.DeepHandedRow
set_option maxRecDepth 100000
set_option maxHeartbeats 20000000
set_option linter.unusedSimpArgs false
set_option linter.unusedVariables false
set_option linter.unusedSectionVars false
namespace Go.Proofs.YtlhgheonlcjpaaaGreat
open Go Go.Vm Go.ChangeShapes Go.WideShapes Go.ChangeAt Go.RowKit
open Go.ChangeMaps (open_string shut_string)
namespace RowScanSpells
section
variable {H:Type} {enc:TypeId × Value -> H} {P:Program}
theorem a7f {f:Func} {s:ChangeSpec} {apart fresh handsOn again:Bool} {W W':World} {args:Array Value} {v:Value} {ds gs:List (DataW H)} {before pa pv:List MemPlace}
  (hW:DataW.Whole enc P f.params.toList s.vars apart W args.toList ds gs before)
  (hres:∀ (b:Nat) (sp:Nat -> Bool) (hd:Bool),DataW.TrodAll enc P W' b sp hd f.resultTypes.toList (v.resultList f.resultTypes.size) (s.fn H (ds ++ gs)).results [])
  (hargs:∀ sp:Nat -> Bool,(∀ p ∈ before,sp p.block = true) -> DataW.TrodAll enc P W' 0 sp true f.params.toList args.toList (s.fn H (ds ++ gs)).args pa)
  (hvars:∀ sp:Nat -> Bool,(∀ p ∈ before,sp p.block = true) -> DataW.TrodVars enc P W' sp s.vars (s.fn H (ds ++ gs)).vars pv)
  (hps:before = pa ++ pv) (hb:Below W.heap.size W W')
  (hok:∀ (j:Nat) (t:TypeId) (r:Value),f.resultTypes[j]? = some t -> (v.resultList f.resultTypes.size)[j]? = some r -> Value.okWide P W' .any 0 t r) :
  s.post enc P f apart fresh handsOn again W args v W':=by
 have hlt:∀ p ∈ before,p.block < W.heap.size:=fun p hp=>hW.lt p hp
 have hold:∀ p ∈ before,(fun b=>decide (b < W.heap.size)) p.block = true:=fun p hp=>by simpa using hlt p hp
 refine ⟨ds,gs,before,[],pa,pv,hW,hres _ _ _,hargs _ hold,hvars _ hold,World.keptBut_mono (fun p hp=>⟨hp,?_⟩) (hb.frame (· ∈ before)),fun _=>?_⟩
 ·rw [hps,List.mem_append] at hp
  exact Or.inr hp
 ·obtain ⟨_,_,_,_,_,hz,hn⟩:=hW
  refine ⟨hok,_,_,([] ++ pa) ++ pv,⟨[] ++ pa,pv,trodAll_append (hargs _ (fun _ _=>rfl)) (hres _ _ _),hvars _ (fun _ _=>rfl),rfl,?_,?_⟩,?_⟩
  ·intro b off hp
   have hin:MemPlace.cell b off ∈ before:=by rw [hps]; simpa using hp
   rw [hb.frozen (hlt _ hin)]
   exact hz b off hin
  ·intro ha
   have:=hn ha
   rw [hps] at this
   simpa using this
  ·intro p hp _
   rw [hps]
   simpa using hp
end
theorem kids:Kids Tryz.prog (· < Tryz.prog.types.size):=kids_rows (by kernel_rfl) (by kernel_rfl)
theorem b0z:∀ {t e:TypeId},t < Tryz.prog.types.size -> Tryz.prog.underlying t = some (.slice e) -> 0 < Tryz.prog.cellsOf e:=fun {t e}=>slices_full_of Tryz.prog (by kernel_rfl) t e
theorem st_arg {H:Type} {enc:TypeId × Value -> H} {W W':World} {v:Value} {d:DataW H} {ps:List MemPlace} {sp:Nat -> Bool} (h:DataW.Trod enc Tryz.prog W 0 (fun _=>true) true 27 v d ps) (hb:Below W.heap.size W W') (hlt:∀ x ∈ ps,x.block < W.heap.size) (hs:∀ p ∈ ps,sp p.block = true):DataW.Trod enc Tryz.prog W' 0 sp true 27 v d ps:=by
 obtain ⟨fu,f⟩:=h
 exact ⟨fu,DataW.trod_stays kids b0z (fun h=>by cases h) (show 27 < Tryz.prog.types.size from of_decide_eq_true (by kernel_rfl)) f (fun p hp=>hb.same (hlt p hp)) (fun p hp=>hs p hp)⟩
theorem own:ownKnob Tryz.prog.godebug = none:=by kernel_rfl
theorem lifted (os:Go.Os) (started:os.Started) (H:Type) (enc:TypeId × Value -> H) :
  ReturnsInHanded {} Tryz.checked os 4 .any (Rows.scanSpellsSpec.pre6 enc Tryz.prog Tryz.f4 Rows.scanSpellsRow.domain false) (Rows.scanSpellsSpec.post enc Tryz.prog Tryz.f4 false true false false):=by
 refine returnsInHanded_of_change (C:=Tryz.checked) own started (by kernel_rfl) Tryz.func4
  (ChangeSpec.witness6 (enc:=enc) (C:=Tryz.checked) false ⟨#[],#[.slice none 0 0],[]⟩ 8 (by kernel_rfl) (by kernel_rfl) (by kernel_rfl) (by kernel_rfl)) ?_
 intro W base args ds gs before hval0 hW hcnd _
 have hval:∀ (j:Nat) t v,Tryz.f4.params[j]? = some t -> args[j]? = some v -> Value.okWide Tryz.prog W .any base t v:=hval0
 have hW':=hW
 obtain ⟨p,q,hA0,hV,rfl,hfz,hnd⟩:=hW
 have hA:DataW.TrodAll enc Tryz.prog W 0 (fun _=>true) true Tryz.f4.params.toList args.toList ds p:=hA0
 rw [Tryz.params4] at hA hval
 obtain ⟨v0,d0,rfl,rfl,h0⟩:=trodAll_one hA
 obtain ⟨rfl,rfl⟩:=trodVars_none hV
 obtain ⟨sa,sl,sc,rfl⟩:=okWide_slice Tryz.underlying27 (hval 0 27 v0 rfl rfl)
 have h0k:=h0
 obtain ⟨fu,hf⟩:=h0
 obtain ⟨l,hl,hr⟩:=rd_arg hf
 clear hA0 hval0
 simp only [List.append_nil] at hW'
 have hlt:∀ x ∈ p,x.block < W.heap.size:=fun x hx=>hW'.lt x (by simpa using hx)
 refine (a9W a7p (w:=W) (spells_E l) (hr.rel)).mono fun e W' ⟨he,hb⟩=>?_
 subst he
 exact ⟨_,rfl,a7f (pa:=_) (pv:=[]) hW' (fun _ _ _=>trodAll_mk1 (shut_bool Tryz.underlying4 true)) (fun sp hs=>trodAll_mk1 (st_arg h0k hb hlt hs)) (fun _ _=>rfl) (by simp) hb (ok_one (by kernel_rfl) rfl (okWide_bool_mk Tryz.underlying4 true))⟩
theorem holds:Rows.ScanSpellsSaid :=
 OpenClaim.holds_of_wide 4 Tryz.f4 rfl rfl rfl rfl rfl rfl rfl ⟨rfl,rfl,rfl,rfl,rfl⟩ rfl rfl rfl rfl rfl (by kernel_rfl) Tryz.func4 (by kernel_rfl)
  (of_decide_eq_true (by kernel_rfl)) (by unfold Func.isWrapper; first | (rw [if_pos (by decide +kernel)]; kernel_rfl) | (rw [if_neg (by decide +kernel)]; exact ⟨rfl,rfl⟩))
  (fun os started H enc _=>lifted os started H enc)
end RowScanSpells
end Go.Proofs.YtlhgheonlcjpaaaGreat
