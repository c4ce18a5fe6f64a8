/- Texts of ParsePrints, joined. -/
import Derived.Test.YtmippldlhnajkaaGreatDoorParsePrintsJ17
import Derived.Tactics
import Derived.Tactics2
import Derived.BigCall
import Derived.BigGuard
set_option maxRecDepth 100000
set_option maxHeartbeats 20000000
set_option linter.unusedSimpArgs false
set_option linter.unusedVariables false
set_option linter.unusedSectionVars false
namespace Go.Proofs.YtmippldlhnajkaaGreatDoor.Re
open Go Go.Vm Go.RowKit Go.Lib
theorem a2F {p:Prop}(h:p):Hid p:=h
theorem b0Y {s:List UInt8}{k:Nat}{b:UInt8}(h:s[k]? = some b):Rp.esc (s.take (k+1))=Rp.esc (s.take k)++Rp.b0B b:=by
 rw[List.take_add_one,h,Rp.c2d];simp[Rp.esc]
theorem slice_s {s:List UInt8}{k:Nat}{b:UInt8}(hb:s[k]? = some b)(w:World):(Instr.slice 9 (.string ⟨⟨s⟩⟩) (some (.int .i64 k)) (some (.int .i64 ((k:Int)+1))) none).run Tryz.prog w=.ok (.string ⟨#[b]⟩) w:=by
 have hk:k<s.length:=by
  rcases Nat.lt_or_ge k s.length with h|h
  ·exact h
  ·rw[List.getElem?_eq_none h]at hb;cases hb
 have h1:(⟨⟨s⟩⟩:ByteArray).extract k (k+1) =⟨#[b]⟩:=by
  apply WideShapes.bytes_inj;simp only[ByteArray.data_extract,Array.toList_extract,List.extract_eq_take_drop];rw[List.getElem?_eq_getElem hk]at hb;cases hb;rw[List.drop_eq_getElem_cons hk,Nat.add_sub_cancel_left];rfl
 have h2:=a9m (P:=Tryz.prog) (ρ:=⟨fun _=>none,fun _ _=>none⟩) (lab:=fun _ _=>none) (w:=w) (lo:=some (.int .i64 k)) (hi:=some (.int .i64 ((k:Int)+1))) (la:=some (.int .i64 k)) (ha:=some (.int .i64 ((k:Int)+1))) (l:=k) (h:=(k:Int)+1) (len:=s.length) (cap:=s.length) false (.int _ _) (.int _ _) rfl rfl (by omega) (by omega) (by omega) (Nat.le_refl _) w;simp only[Instr.slice,Sem.run_bind,run_underlying Tryz.underlying9,Result.andThen_ok];rw[show(⟨⟨s⟩⟩:ByteArray).size=s.length from rfl];simp only[Option.isSome_none,Bool.false_eq_true,if_false,Sem.run_bind];rw[h2];simp only[Result.andThen_ok,Sem.run_pure];rw[show((k:Int)+1).toNat=k+1 by omega,show((k:Int)).toNat=k by omega,h1]
theorem b77 {b:UInt8}{n:Nat}(hn:n<256)(h:((b.toNat:Int) ==(n:Int))=true):b=UInt8.ofNat n:=by
 have h:(b.toNat:Int)=n:=by simpa using h
 apply UInt8.toNat_inj.1;rw[UInt8.toNat_ofNat'];omega
theorem b76 {b:UInt8}{n:Nat}(hn:n<256)(h:((b.toNat:Int) ==(n:Int))=false):b≠UInt8.ofNat n:=by
 rintro rfl;rw[UInt8.toNat_ofNat']at h;have:n%2^8=n:=by omega
 simp[this]at h
theorem bld_next {w wr:World}{s:List UInt8}{k:Nat}{b:UInt8}{c:ByteArray}(hb:s[k]? = some b)(hc:c.data.toList=Rp.b0B b)(h:BuilderAt 56 5 w.heap.size w.heap.size (.pointer (some ⟨w.heap.size,0,none⟩)) (byteCells (Rp.esc (s.take k))++strCells c) wr):IsBuilder 56 5 w.heap.size w.heap.size (byteCells (Rp.esc (s.take (k+1)))) wr:=by
 have e:byteCells (Rp.esc (s.take k))++strCells c=byteCells (Rp.esc (s.take (k+1))):=by
  rw[b0Y hb,strCells_eq,hc,byteCells_append]
 rw[e]at h;exact .inr h
theorem esc_walk (s:List UInt8)(w:World)(hs:s.length<=1000000):Calls Tryz.prog 86 #[.string ⟨⟨s⟩⟩] w fun e w'=>e=.returned (.string ⟨(Rp.esc s).toArray⟩)/\Below w.heap.size w w':=by
  have Hs:=a2F hs;clear hs;go_enter Tryz.func86,Tryz.ntmps86;go_wp2_with fail;go_loopw [4] (fun i wr=>∃k:Nat,k<=s.length/\i=.int .i64 k/\Hid (IsBuilder 56 5 w.heap.size w.heap.size (byteCells (Rp.esc (s.take k))) wr)/\Hid (Below w.heap.size w wr)) (fun i _=>s.length-(RowKit.intOf i).toNat)
  case atStart =>
    refine⟨0,Nat.zero_le _,rfl,a2F ?_,a2F ?_⟩
    · exact fresh_isBuilder 56 5 w
    · exact(Below.refl w.heap.size w).alloc (Nat.le_refl _) _
  case round =>
    obtain⟨k,hk,rfl,HB,HW⟩:=hrel;by_cases hkn:k<s.length
    · have hb:=List.getElem?_eq_getElem hkn
      generalize s[k]=b at hb;have Hb:=a2F hb;have hBw:=HW.out.size;have hl0:=Hs.out;have hlk:(Rp.esc (s.take k)).length<=2*s.length:=Nat.le_trans (Rp.b3s _) (by rw[List.length_take];omega);clear hb;have hbb:({data:={toList:=s}}:ByteArray)[k]'(show k<s.length from hkn)=b:=by
        have:=Hb.out;rw[List.getElem?_eq_getElem hkn]at this;cases this;rfl
      go_wp2_with fail;all_goals first
        | (rw [slice_s Hb.out]
           simp only[Result.andThen];rw[Oper.upon_value];go_wp2_with fail)
        | skip
      all_goals simp only[hbb]at *
      all_goals refine(Tryz.Builder_WriteString w.heap.size w.heap.size _ _ wr HB.out (by rw[byteCells_length];simp only[ByteArray.size];simp;omega) hBw).mono ?_
      all_goals rintro e w3 ⟨rfl,h3,hb3⟩
      all_goals have H3:=a2F h3
      all_goals have Hb3:=a2F (HW.out.trans hb3)
      all_goals clear h3 hb3
      all_goals go_wp2
      all_goals refine⟨⟨k+1,by omega,by go_num,a2F (bld_next Hb.out ?_ H3.out),Hb3⟩,by simp[RowKit.intOf];omega⟩
      all_goals first
        |(have e:=b77 (n:=10) (by omega) (by assumption);subst e;rfl)
        |(have e:=b77 (n:=9) (by omega) (by assumption);subst e;rfl)
        |(have e:=b77 (n:=92) (by omega) (by assumption);subst e;rfl)
        |(have e:=b77 (n:=34) (by omega) (by assumption);subst e;rfl)
        |(unfold Rp.b0B;rw[if_neg (show b≠10 from b76 (n:=10) (by omega) (by assumption)),if_neg (show b≠9 from b76 (n:=9) (by omega) (by assumption)),if_neg (show b≠92 from b76 (n:=92) (by omega) (by assumption)),if_neg (show b≠34 from b76 (n:=34) (by omega) (by assumption))])
    · have hke:k=s.length:=by omega
      subst hke;have hB':=HB.out;rw[List.take_length]at hB';have hBw:=HW.out.size;have HB2:=a2F hB';clear hB';go_wp2_with fail;refine(Tryz.Builder_String_any w.heap.size w.heap.size _ wr HB2.out hBw).mono ?_;rintro e w5 ⟨rfl,hb5⟩;have Hb5:=a2F (HW.out.trans hb5);clear hb5;go_wp2;go_ret;exact⟨rfl,Hb5.out⟩
theorem b8G:a6A Tryz.prog 86 (b0T Rp.escF):=by
 refine⟨fun args H out h ρ lab w xs hc hS hx=>?_,⟨_,_,Tryz.func86,rfl,rfl⟩⟩;unfold b0T Rp.escF at h;split at h
 ·rename_i v hv;cases h;split at hv
  ·rename_i s;split at hv
   ·rename_i hb;cases hv;obtain⟨x1,r1,rfl,a1,a2⟩:=D9.1 hx;have:r1=[]:=by have:=a2.1;simpa using this
    subst this;cases a1;refine(esc_walk s w (a5L hb)).mono fun e w' ⟨he,hw⟩=>?_;subst he;have hg:=b48 hw;exact⟨ρ,lab,hS.grew hg,hg.ext lab,⟨fun _ _ _ h=>h,fun _ _ _ _ h=>h⟩,.str _,hc,Nat.le_refl _⟩
   ·cases hv
  ·cases hv
 ·cases h
end Go.Proofs.YtmippldlhnajkaaGreatDoor.Re
namespace Go.Proofs.YtmippldlhnajkaaGreatDoor.Pr
open Go Go.Vm
noncomputable def a9s:Nat->Option Hand|33=>some (.plain b2F)|38=>some (.plain (b0T Sc.tokF))|7=>some (.plain (b0T Aw.c1S))|78=>some (.plain (b0T Rp.escF))|86=>some (.plain (b0T Rp.escF))|84=>some (.plain (b0T c4e))|53=>some (.via gPre b7o)|_=>none
noncomputable def env:Env:={P:=Tryz.prog,T:=T,keep:=keep,byref:=fun _ _=>none,meth:=fun _ _=>none,tags:=fun g=>has g tagL,argTags:=fun g=>has g argL,quiet:=fun g=>has g a8C,loose:=fun _=>false,ok:=fun g=>has g okL,cut:=cut,b0S:=b0S,a6V:=a6V,sep:=sep,mask:=mask,look:=fun g=>has g b7w,frz:=fun g=>has g b5e,slk:=slk,full:=true,intr:=a9s}
theorem codes:b0A env okL=true:=by kernel_rfl
theorem b5j:a7L env:=by
 intro _ _ _ h;cases h
theorem b4X:a5X env:=⟨b5j,a8j tys,mixed,a6F (fun _ h=>h) codes,(fun g h hg=>by simp only[env,a9s]at hg;first |(cases hg;done) |(split at hg<;>first |(cases hg;done) |(cases hg;exact b4l) |(cases hg;exact Sc.c1B) |(cases hg;exact Aw.b8t) |(cases hg;exact Rp.b8G) |(cases hg;exact Re.b8G) |(cases hg;exact c0Y))),(fun g pre post hg=>by simp only[env,a9s]at hg;first |(cases hg;done) |(split at hg<;>first |(cases hg;done) |(cases hg;exact a6H)))⟩
end Go.Proofs.YtmippldlhnajkaaGreatDoor.Pr
namespace Go.Proofs.YtmippldlhnajkaaGreatDoor
open Go Go.Vm
theorem b68:∀l:List Str,strsOf (clS l)=some l
 | []=>rfl
 | s::r=>by
  show(match strsOf (clS r)with|some l=>some (s::l)|none=>none)=_;rw[b68 r]
theorem joinI_at {a:List Str}{b:Str}(h:(leN a.length 140737488355328&&leN (Lib.join a b).length 140737488355328)=true):b2F [.slice .sealed (List.length a) (clS a),.str b] []=some (.ret (.str (Lib.join a b)) []):=by
 rw[Bool.and_eq_true]at h;have e:eqN a.length (List.length a)=true:=a2r rfl;unfold b2F;simp only[b68,e,h.1,h.2,gd,Bool.and_self]
end Go.Proofs.YtmippldlhnajkaaGreatDoor
namespace Go.Proofs.YtmippldlhnajkaaGreatDoor.Pr
open Go Go.Vm
theorem joinG_ok {elems1:List Str}{sep2 rr:Str}(h:c0Z elems1 sep2=some rr):E env (.call 33 [.sl clS elems1,.str sep2]) []=some (.ret (.str rr) []):=by
 unfold c0Z at h;split at h
 ·rename_i hs;cases h;exact a6X rfl (joinI_at hs)
 ·cases h
theorem itoaG_ok {i1:Int}{rr:Str}(h:b7r i1=some rr):E env (.call 84 [.i i1]) []=some (.ret (.str rr) []):=by
 unfold b7r at h;split at h
 ·rename_i hs;cases h;exact a6X rfl (by simp only[b0T,c4e,hs])
 ·cases h
theorem escR_ok {s1 rr:Str}(h:escR s1=some rr):E env (.call 86 [.str s1]) []=some (.ret (.str rr) []):=by
 unfold escR at h;split at h
 ·rename_i hs;cases h;exact a6X rfl (by simp only[b0T,Rp.escF,hs])
 ·cases h
theorem escG_ok {s1 rr:Str}(h:b7J s1=some rr):E env (.call 78 [.str s1]) []=some (.ret (.str rr) []):=by
 unfold b7J at h;split at h
 ·rename_i hs;cases h;exact a6X rfl (by simp only[b0T,Rp.escF,hs])
 ·cases h
def c2r (elems1:List Str)(sep2:Str):Str->Out|rr=>.ret (.str rr) []
instance {elems1:List Str}{sep2:Str}:OkF env (c0Z elems1 sep2) 33 [.sl clS elems1,.str sep2] [] (c2r elems1 sep2):=⟨fun{r} h=>by
 obtain rr:=r;exact joinG_ok h⟩
def c2q (i1:Int):Str->Out|rr=>.ret (.str rr) []
instance {i1:Int}:OkF env (b7r i1) 84 [.i i1] [] (c2q i1):=⟨fun{r} h=>by
 obtain rr:=r;exact itoaG_ok h⟩
def c3X (s1:Str):Str->Out|rr=>.ret (.str rr) []
instance {s1:Str}:OkF env (escR s1) 86 [.str s1] [] (c3X s1):=⟨fun{r} h=>by
 obtain rr:=r;exact escR_ok h⟩
def c3W (s1:Str):Str->Out|rr=>.ret (.str rr) []
instance {s1:Str}:OkF env (b7J s1) 78 [.str s1] [] (c3W s1):=⟨fun{r} h=>by
 obtain rr:=r;exact escG_ok h⟩
end Go.Proofs.YtmippldlhnajkaaGreatDoor.Pr
