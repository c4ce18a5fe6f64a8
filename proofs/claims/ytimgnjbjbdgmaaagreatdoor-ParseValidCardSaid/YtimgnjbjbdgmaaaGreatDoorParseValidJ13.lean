/- Texts of ParseValid, joined. -/
import Derived.Test.YtimgnjbjbdgmaaaGreatDoorParseValidJ12
import Derived.Tactics
import Derived.Tactics2
import Derived.BigCall
import Derived.BigGuard
set_option maxRecDepth 100000
set_option maxHeartbeats 20000000
set_option linter.all false
namespace Go.Proofs.YtimgnjbjbdgmaaaGreatDoor.Re
open Go Go.Vm Go.RowKit Go.Lib
variable {s:List UInt8} {k n:Nat} {b:UInt8}
theorem a4o {p:Prop}(h:p):Hid p:=h
theorem b1a (h:s[k]? = some b):Rp.esc (s.take (k+1))=Rp.esc (s.take k)++Rp.b09 b:=by
 rw[List.take_add_one,h,Rp.c1r];simp[Rp.esc]
theorem slice_s (hb:s[k]? = some b)(w:World):(Instr.slice 9 (.string ⟨⟨s⟩⟩) (some (.int .i64 k)) (some (.int .i64 ((k:Int)+1))) none).run Tryz.prog w=.ok (.string ⟨#[b]⟩) w:=by
 have hk:k<s.length:=by
  rcases Nat.lt_or_ge k s.length with h|h
  ·exact h
  rw[List.getElem?_eq_none h]at hb;cases hb
 have h1:(⟨⟨s⟩⟩:ByteArray).extract k (k+1) =⟨#[b]⟩:=by
  apply WideShapes.bytes_inj;simp only[ByteArray.data_extract,Array.toList_extract,List.extract_eq_take_drop];rw[List.getElem?_eq_getElem hk]at hb;cases hb;rw[List.drop_eq_getElem_cons hk,Nat.add_sub_cancel_left];rfl
 have h2:=a9Z (P:=Tryz.prog) (ρ:=⟨fun _=>none,fun _ _=>none⟩) (lab:=fun _ _=>none) (w:=w) (lo:=some (.int .i64 k)) (hi:=some (.int .i64 ((k:Int)+1))) (la:=some (.int .i64 k)) (ha:=some (.int .i64 ((k:Int)+1))) (l:=k) (h:=(k:Int)+1) (len:=s.length) (cap:=s.length) false (.int _ _) (.int _ _) rfl rfl zOm zOm zOm (Nat.le_refl _) w;simp only[Instr.slice,Sem.run_bind,run_underlying Tryz.underlying9,Result.andThen_ok];rw[show(⟨⟨s⟩⟩:ByteArray).size=s.length from rfl];simp only[Option.isSome_none,Bool.false_eq_true,if_false,Sem.run_bind];rw[h2];simp only[Result.andThen_ok,Sem.run_pure];rw[show((k:Int)+1).toNat=k+1 by omega,show((k:Int)).toNat=k by omega,h1]
theorem b7z (hn:n<256)(h:((b.toNat:Int) ==(n:Int))=true):b=UInt8.ofNat n:=by
 have h:(b.toNat:Int)=n:=by simpa using h
 apply UInt8.toNat_inj.1;rw[UInt8.toNat_ofNat'];omega
theorem b7y (hn:n<256)(h:((b.toNat:Int) ==(n:Int))=false):b≠UInt8.ofNat n:=by
 rintro rfl;rw[UInt8.toNat_ofNat']at h;have:n%2^8=n:=zOm;simp[this]at h
theorem bld_next {w wr:World}{c:ByteArray}(hb:s[k]? = some b)(hc:c.data.toList=Rp.b09 b)(h:BuilderAt 55 5 w.heap.size w.heap.size (.pointer (some ⟨w.heap.size,0,none⟩)) (byteCells (Rp.esc (s.take k))++strCells c) wr):IsBuilder 55 5 w.heap.size w.heap.size (byteCells (Rp.esc (s.take (k+1)))) wr:=by
 have e:byteCells (Rp.esc (s.take k))++strCells c=byteCells (Rp.esc (s.take (k+1))):=by
  rw[b1a hb,strCells_eq,hc,byteCells_append]
 rw[e]at h;exact .inr h
theorem esc_walk (s:List UInt8)(w:World)(hs:s.length<=1000000):Calls Tryz.prog 174 #[.string ⟨⟨s⟩⟩] w fun e w'=>e=.returned (.string ⟨(Rp.esc s).toArray⟩)/\Below w.heap.size w w':=by
  have Hs:=a4o hs;clear hs;go_enter Tryz.func174,Tryz.ntmps174;go_wp2_with fail;go_loopw [4] (fun i wr=>∃k:Nat,k<=s.length/\i=.int .i64 k/\Hid (IsBuilder 55 5 w.heap.size w.heap.size (byteCells (Rp.esc (s.take k))) wr)/\Hid (Below w.heap.size w wr)) (fun i _=>s.length-(RowKit.intOf i).toNat)
  case atStart =>
    refine⟨0,Nat.zero_le _,rfl,a4o ?_,a4o ?_⟩
    · exact fresh_isBuilder 55 5 w
    exact(Below.refl w.heap.size w).alloc (Nat.le_refl _) _
  case round =>
    obtain⟨k,hk,rfl,HB,HW⟩:=hrel;by_cases hkn:k<s.length
    · have hb:=List.getElem?_eq_getElem hkn
      generalize s[k]=b at hb;have Hb:=a4o hb;have hBw:=HW.out.size;have hl0:=Hs.out;have hlk:(Rp.esc (s.take k)).length<=2*s.length:=Nat.le_trans (Rp.b22 _) (by rw[List.length_take];omega);clear hb;have hbb:({data:={toList:=s}}:ByteArray)[k]'(show k<s.length from hkn)=b:=by
        have:=Hb.out;rw[List.getElem?_eq_getElem hkn]at this;cases this;rfl
      go_wp2_with fail;all_goals first
        | (rw [slice_s Hb.out]
           simp only[Result.andThen];rw[Oper.upon_value];go_wp2_with fail)
        | skip
      all_goals simp only[hbb]at *
      all_goals refine(Tryz.Builder_WriteString w.heap.size w.heap.size _ _ wr HB.out (by rw[byteCells_length];simp only[ByteArray.size];simp;omega) hBw).mono ?_
      all_goals rintro e w3 ⟨rfl,h3,hb3⟩
      all_goals have H3:=a4o h3
      all_goals have Hb3:=a4o (HW.out.trans hb3)
      all_goals clear h3 hb3
      all_goals go_wp2
      all_goals refine⟨⟨k+1,zOm,by go_num,a4o (bld_next Hb.out ?_ H3.out),Hb3⟩,by simp[RowKit.intOf];omega⟩
      all_goals first
        |(have e:=b7z (n:=10) zOm zAs;subst e;rfl)
        |(have e:=b7z (n:=9) zOm zAs;subst e;rfl)
        |(have e:=b7z (n:=92) zOm zAs;subst e;rfl)
        |(have e:=b7z (n:=34) zOm zAs;subst e;rfl)
        |(unfold Rp.b09;rw[if_neg (show b≠10 from b7y (n:=10) zOm zAs),if_neg (show b≠9 from b7y (n:=9) zOm zAs),if_neg (show b≠92 from b7y (n:=92) zOm zAs),if_neg (show b≠34 from b7y (n:=34) zOm zAs)])
    have hke:k=s.length:=by omega
    subst hke;have hB':=HB.out;rw[List.take_length]at hB';have hBw:=HW.out.size;have HB2:=a4o hB';clear hB';go_wp2_with fail;refine(Tryz.Builder_String_any w.heap.size w.heap.size _ wr HB2.out hBw).mono ?_;rintro e w5 ⟨rfl,hb5⟩;have Hb5:=a4o (HW.out.trans hb5);clear hb5;go_wp2;go_ret;exact⟨rfl,Hb5.out⟩
theorem b21:a7G Tryz.prog 174 (b0m Rp.escF):=by
 refine⟨fun args H out h ρ lab w xs hc hS hx=>?_,⟨_,_,Tryz.func174,rfl,rfl⟩⟩;unfold b0m Rp.escF at h;split at h
 ·rename_i v hv;cases h;split at hv
  ·rename_i s;split at hv
   ·rename_i hb;cases hv;obtain⟨x1,r1,rfl,a1,a2⟩:=F8.1 hx;have:r1=[]:=by have:=a2.1;simpa using this
    subst this;cases a1;refine(esc_walk s w (a7j hb)).mono fun e w' ⟨he,hw⟩=>?_;subst he;have hg:=a9X hw;exact⟨ρ,lab,hS.grew hg,hg.ext lab,⟨fun _ _ _ h=>h,fun _ _ _ _ h=>h⟩,.str _,hc,Nat.le_refl _⟩
   cases hv
  cases hv
 cases h
end Go.Proofs.YtimgnjbjbdgmaaaGreatDoor.Re
