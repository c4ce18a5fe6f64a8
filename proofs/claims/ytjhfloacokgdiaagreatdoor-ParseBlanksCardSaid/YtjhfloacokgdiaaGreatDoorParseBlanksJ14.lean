/- Texts of ParseBlanks, joined. -/
import Derived.Test.YtjhfloacokgdiaaGreatDoorParseBlanksJ13
set_option maxRecDepth 100000
set_option maxHeartbeats 20000000
set_option linter.unusedSimpArgs false
set_option linter.unusedVariables false
set_option linter.unusedSectionVars false
namespace Go.Proofs.YtjhfloacokgdiaaGreatDoor
open Go Go.Vm
noncomputable def a8B:Nat->Option Hand
 | 40=>some (.plain b1D)
 | 16=>some (.plain (a9E Sc.tokF))
 | 8=>some (.plain (a9E Aw.b8A))
 | 30=>some (.plain (a9E Tr.trimF))
 | 88=>some (.plain (a9E Rp.escF))
 | 113=>some (.plain (a9E itoaF))
 | 162=>some (.plain b6I)
 | 20=>some (.via gPre b4H)
 | _=>none
noncomputable def env:Env:={P:=Tryz.prog,T:=T,keep:=keep,byref:=fun _ _=>none,meth:=fun _ _=>none,tags:=fun g=>has g tagL,argTags:=fun g=>has g argL,quiet:=fun g=>has g a7F,loose:=fun _=>false,ok:=fun g=>has g okL,cut:=cut,a9C:=a9C,a4x:=a4x,sep:=sep,mask:=mask,look:=fun g=>has g b7u,frz:=fun g=>has g b1U,slk:=slk,full:=true,mk0:=true,intr:=a8B}
theorem codes:a8q env okL=true:=by kernel_rfl
theorem b3j:a5f env:=by
 intro _ _ _ h
 cases h
theorem b1A:a5d env:=⟨b3j,a6d tys,mixed,a4Y (fun _ h=>h) codes,(fun g h hg=>by simp only[env,a8B]at hg;first |(cases hg;done) |(split at hg<;>first |(cases hg;done) |(cases hg;exact b2j) |(cases hg;exact Sc.tok_intr) |(cases hg;exact Aw.b8B) |(cases hg;exact Tr.c2a) |(cases hg;exact Rp.esc_intr) |(cases hg;exact b4L) |(cases hg;exact b4m))),(fun g pre post hg=>by simp only[env,a8B]at hg;first |(cases hg;done) |(split at hg<;>first |(cases hg;done) |(cases hg;exact a5Q)))⟩
end Go.Proofs.YtjhfloacokgdiaaGreatDoor
namespace Go.Proofs.YtjhfloacokgdiaaGreatDoor
open Go Go.Vm
theorem b5i:∀l:List Str,strsOf (clS l)=some l
 | []=>rfl
 | s::r=>by
  show(match strsOf (clS r)with|some l=>some (s::l)|none=>none)=_
  rw[b5i r]
theorem joinI_at {a:List Str}{b:Str}(h:(leN a.length 140737488355328&&leN (Lib.join a b).length 140737488355328)=true):b1D [.slice .sealed (List.length a) (clS a),.str b] []=some (.ret (.str (Lib.join a b)) []):=by
 rw[Bool.and_eq_true]at h
 have e:eqN a.length (List.length a)=true:=a1u rfl
 unfold b1D
 simp only[b5i,e,h.1,h.2,gd,Bool.and_self]
end Go.Proofs.YtjhfloacokgdiaaGreatDoor
namespace Go.Proofs.YtjhfloacokgdiaaGreatDoor
open Go Go.Vm
theorem c06 {bb:Bool}(h:b07=some bb):E env (.call 8 []) []=some (.ret (.bool bb) []):=by
 cases h
 exact a7g rfl rfl
theorem b9J {V3:Str}{l2:List Tok}{c3 a4:Int}(h:a2X V3=some (l2,c3,a4)):E env (.call 16 [.str V3]) []=some (.ret (.tuple [.sl p8 l2,.agg [.i c3,.i a4]]) []):=by
 unfold a2X at h
 cases h
 exact tok_call rfl (Sc.b2u _).1
theorem joinG_ok {elems1:List Str}{sep2 rr:Str}(h:b4M elems1 sep2=some rr):E env (.call 40 [.sl clS elems1,.str sep2]) []=some (.ret (.str rr) []):=by
 unfold b4M at h
 split at h
 ·rename_i hs
  cases h
  exact a7g rfl (joinI_at hs)
 ·cases h
theorem escS_ok {s1 rr:Str}(h:escS s1=some rr):E env (.call 88 [.str s1]) []=some (.ret (.str rr) []):=by
 unfold escS at h
 split at h
 ·rename_i hs
  cases h
  exact a7g rfl (by simp only[a9E,Rp.escF,hs])
 ·cases h
theorem trimG_ok {s1 rr:Str}(h:trimG s1=some rr):E env (.call 30 [.str s1]) []=some (.ret (.str rr) []):=by
 unfold trimG at h
 split at h
 ·cases h
  exact a7g rfl rfl
 ·cases h
theorem atoi_ok {s1:Str}{n2:Int}(h:atoi s1=some n2):E env (.call 162 [.str s1]) []=some (.ret (.tuple [.i n2,.nilIface]) []):=by
 unfold atoi at h
 split at h
 ·rename_i hb
  cases h
  exact a7g rfl (by simp only[b6I,hb])
 ·cases h
def b35:Bool->Out
 | bb=>.ret (.bool bb) []
instance:OkF env (b07) 8 [] [] (b35):=⟨fun{r} h=>by
 obtain bb:=r
 exact c06 h⟩
def b3M (V3:Str):List Tok×Int×Int->Out
 |(l2,c3,a4)=>.ret (.tuple [.sl p8 l2,.agg [.i c3,.i a4]]) []
instance {V3:Str}:OkF env (a2X V3) 16 [.str V3] [] (b3M V3):=⟨fun{r} h=>by
 obtain⟨l2,c3,a4⟩:=r
 exact b9J h⟩
def b5L (elems1:List Str)(sep2:Str):Str->Out
 | rr=>.ret (.str rr) []
instance {elems1:List Str}{sep2:Str}:OkF env (b4M elems1 sep2) 40 [.sl clS elems1,.str sep2] [] (b5L elems1 sep2):=⟨fun{r} h=>by
 obtain rr:=r
 exact joinG_ok h⟩
def b7a (s1:Str):Str->Out
 | rr=>.ret (.str rr) []
instance {s1:Str}:OkF env (escS s1) 88 [.str s1] [] (b7a s1):=⟨fun{r} h=>by
 obtain rr:=r
 exact escS_ok h⟩
def b6q (s1:Str):Str->Out
 | rr=>.ret (.str rr) []
instance {s1:Str}:OkF env (trimG s1) 30 [.str s1] [] (b6q s1):=⟨fun{r} h=>by
 obtain rr:=r
 exact trimG_ok h⟩
def b6J (s1:Str):Int->Out
 | n2=>.ret (.tuple [.i n2,.nilIface]) []
instance {s1:Str}:OkF env (atoi s1) 162 [.str s1] [] (b6J s1):=⟨fun{r} h=>by
 obtain n2:=r
 exact atoi_ok h⟩
end Go.Proofs.YtjhfloacokgdiaaGreatDoor
namespace Go.Vm
section
variable {env:Env} {orc:Orc} {ops:Array Oper} {o:Oper} {rest:List Oper} {fr:Fr} {H:Hp} {K:Res->Prop}
variable {α γ:Type} {y:γ} {sz:Nat} {c1:α->List V} {cl:List α->List V}
variable {l m:List α} {k:List α->Option γ} {bytes:Nat} {args:Array Operand} {at_:Array TypeId} {a b:Operand} {t xt e g:Nat} {w:Own} {yt yx ye:Ty} {v:V}
theorem k_appK (ho:o.op=.call ⟨.builtin .append,args,at_⟩)(h:(app bytes l m).bind k=some y)(ha:args.toList=[a,b])(hs:ev fr a=some (.slice (.tag g) l.length (cl l))) [he:a9W cl sz c1]
  (hm:Nat.beq m.length 0=false) (hk:∀x,k x=some y -> ∃H1,O7 (some (hset g (.tip sz x.length) H))=some H1/\Os env orc ops rest (M5 o.dst (.slice (.tag g) x.length (cl x)) fr) H1 K)
  (hw:u6 ops o fr=some true:=by exact rfl) (ht:at_.toList=[t,xt]:=by exact rfl) (hv:ev fr b=some v:=by exact rfl)
  (h1:I4 t env.T=some yt:=by exact rfl) (h2:I4 xt env.T=some yx:=by exact rfl) (h3:yt.sh=.slice e:=by exact rfl) (h4:a4D yx.sh=true:=by exact rfl) (h5:I4 e env.T=some ye:=by exact rfl) (h6:ye.size=sz:=by exact rfl) (h7:ye.bytes=bytes:=by exact rfl) (h8:Nat.beq sz 0=false:=by exact rfl)
  (h9:a2L env.T e v H=some (m.length,cl m):=by exact(a95 (a1u rfl) rfl)) (h10:hget g H=some (.tip sz l.length):=by exact rfl):Os env orc ops (o::rest) fr H K:=by
 obtain⟨x,g1,g2⟩:=a1b h
 obtain⟨H1,g3,g4⟩:=hk x g2
 exact os_appK he.e g1 hw ho ha ht hs hv h1 h2 h3 h4 h5 h6 h7 h8 h9 hm h10 g3 g4
end
theorem Z4 {P:Prop}(x:P:=by
  repeat' first
  |(with_reducible intro(h:_=some _))
  | with_reducible refine AllC.all ?_
  | with_reducible intro _
  |((with_reducible refine osI ?_);first
    | refine oR rfl rfl ?_
    | refine c0L ?_
    | refine D7 ?_
    | refine b5O rfl h rfl rfl rfl rfl rfl ?_
    | refine b5O rfl (b95 h) rfl rfl rfl rfl rfl ?_
    | refine c0y rfl h rfl rfl rfl rfl rfl ?_
    | refine k_look rfl h rfl rfl rfl rfl rfl rfl ?_
    | refine k_idx rfl h rfl ?_
    | refine c0x rfl rfl rfl rfl rfl rfl ?_
    | refine c0w rfl rfl rfl ?_
    |(refine k_app rfl h rfl rfl rfl (fun _ h=>?_);refine⟨_,rfl,?_⟩)
    |(refine k_appK rfl h rfl rfl rfl (fun _ h=>?_);refine⟨_,rfl,?_⟩)
    |(refine k_appT rfl h rfl rfl (fun _ h=>?_);refine⟨_,rfl,?_⟩)
    |(refine b5N rfl h rfl (.inl rfl) rfl (fun _ h=>?_);refine⟨_,rfl,?_⟩)
    |(refine b5N rfl h rfl (.inr rfl) rfl (fun _ h=>?_);refine⟨_,rfl,?_⟩)
    |(refine k_appD rfl h rfl rfl rfl (fun _ h=>?_);refine⟨_,rfl,?_⟩)
    |(refine k_appU rfl h rfl rfl (fun _ h=>?_);refine⟨_,rfl,?_⟩)
    |(refine b5M rfl h rfl (.inl ⟨rfl,rfl⟩) rfl (fun _ h=>?_);refine⟨_,rfl,?_⟩)
    |(refine b5M rfl h rfl (.inr ⟨rfl,a8E (Nat.succ_le_succ (Nat.zero_le _))⟩) rfl (fun _ h=>?_);refine⟨_,rfl,?_⟩)
    | refine k_idxS rfl h ?_
    | refine k_cat rfl h ?_
    | refine k_subS rfl h ?_
    | refine k_subL rfl h rfl ?_
    | refine b51 rfl ?_
    | refine j6 rfl rfl rfl ?_
    | refine b3s rfl rfl rfl ?_
    | refine b2o (m:=[]) (ek:=V.int .i64) (eb:=V.str) (a10 _) rfl rfl rfl rfl rfl rfl rfl rfl rfl rfl rfl rfl ?_
    | refine b2o (ek:=V.int .i64) (eb:=V.str) (a10 _) rfl rfl rfl rfl rfl rfl rfl rfl rfl rfl rfl rfl ?_
    | refine b50 rfl rfl rfl ?_
    | refine b7G rfl rfl rfl (by assumption) rfl ?_
    | refine b7F rfl rfl rfl (by assumption) rfl ?_
    | refine c0v h rfl rfl rfl (fun e h=>?_) (fun e h=>?_)
    |(refine k_gd h (fun e h=>?_);refine j6 rfl rfl (a09 e rfl) ?_)
    |(refine k_gd h (fun e h=>?_);refine os_mk0 e rfl rfl rfl rfl rfl rfl rfl rfl rfl rfl rfl rfl rfl ?_)
    | refine b7E rfl rfl rfl ?_
    | refine b2p (ek:=V.int .i64) (eb:=V.bool) (d:=false) (a10 _) rfl rfl rfl rfl rfl rfl rfl rfl rfl rfl rfl ?_
    | refine c0K (ek:=V.int .i64) (eb:=V.bool) (a10 _) rfl rfl rfl rfl rfl rfl rfl rfl rfl rfl rfl rfl ?_
    | refine b2p (ek:=V.int .i64) (eb:=V.str) (d:=[]) (a10 _) rfl rfl rfl rfl rfl rfl rfl rfl rfl rfl rfl ?_
    | refine b7H rfl rfl rfl rfl rfl rfl rfl rfl rfl ?_
    | refine b7D rfl rfl rfl rfl rfl rfl rfl rfl rfl ?_)
  |((with_reducible refine evI ?_);first
    | refine eSG ?_
    | refine k_if rfl h (fun e h=>?_) (fun e h=>?_)
    | refine I7 ?_
    | refine a1R ?_
    | refine F4 ?_
    | refine M0 ?_
    | refine o6 ?_
    | refine C8 ?_
    | refine N7 rfl rfl ?_
    | refine R4 rfl rfl ?_
    | refine N7 rfl (by assumption) ?_
    | refine R4 rfl (by assumption) ?_
    | refine b4N ls rfl ?_
    | refine a1y jn1 h ?_ ?_|refine a0w kr jn1 h ?_ ?_|refine a0x kr jn1 h ?_ ?_
     | refine a1y jn2 h ?_ ?_|refine a0w kr jn2 h ?_ ?_|refine a0x kr jn2 h ?_ ?_
     | refine a1y jn3 h ?_ ?_|refine a0w kr jn3 h ?_ ?_|refine a0x kr jn3 h ?_ ?_
     | refine a1y jn4 h ?_ ?_|refine a0w kr jn4 h ?_ ?_|refine a0x kr jn4 h ?_ ?_
     | refine a1y jn5 h ?_ ?_|refine a0w kr jn5 h ?_ ?_|refine a0x kr jn5 h ?_ ?_
     | refine a1y jn6 h ?_ ?_|refine a0w kr jn6 h ?_ ?_|refine a0x kr jn6 h ?_ ?_
     | refine a1y jn7 h ?_ ?_|refine a0w kr jn7 h ?_ ?_|refine a0x kr jn7 h ?_ ?_
     | refine a1y jn8 h ?_ ?_|refine a0w kr jn8 h ?_ ?_|refine a0x kr jn8 h ?_ ?_
     | refine a1y jn9 h ?_ ?_|refine a0w kr jn9 h ?_ ?_|refine a0x kr jn9 h ?_ ?_
     | refine a1y jn10 h ?_ ?_|refine a0w kr jn10 h ?_ ?_|refine a0x kr jn10 h ?_ ?_
     | refine a1y jn11 h ?_ ?_|refine a0w kr jn11 h ?_ ?_|refine a0x kr jn11 h ?_ ?_
     | refine a1y jn12 h ?_ ?_|refine a0w kr jn12 h ?_ ?_|refine a0x kr jn12 h ?_ ?_
     | refine a1y jn13 h ?_ ?_|refine a0w kr jn13 h ?_ ?_|refine a0x kr jn13 h ?_ ?_
     | refine a1y jn14 h ?_ ?_|refine a0w kr jn14 h ?_ ?_|refine a0x kr jn14 h ?_ ?_
    | refine a1c jl1 h (fun m ih=>?_)
     | refine a2P jl1 h (fun m ih=>?_)
     | refine a2Q jl1 h (fun m ih=>?_)
     | refine a2R jl1 h (fun m ih=>?_)
     | refine a2S jl1 h (fun m ih=>?_)
     | refine a2T jl1 h (fun m ih=>?_)
     | refine a2U jl1 h (fun m ih=>?_)
     | refine a1c jl2 h (fun m ih=>?_)
     | refine a2P jl2 h (fun m ih=>?_)
     | refine a2Q jl2 h (fun m ih=>?_)
     | refine a2R jl2 h (fun m ih=>?_)
     | refine a2S jl2 h (fun m ih=>?_)
     | refine a2T jl2 h (fun m ih=>?_)
     | refine a2U jl2 h (fun m ih=>?_)
     | refine a1c jl3 h (fun m ih=>?_)
     | refine a2P jl3 h (fun m ih=>?_)
     | refine a2Q jl3 h (fun m ih=>?_)
     | refine a2R jl3 h (fun m ih=>?_)
     | refine a2S jl3 h (fun m ih=>?_)
     | refine a2T jl3 h (fun m ih=>?_)
     | refine a2U jl3 h (fun m ih=>?_)
     | refine a1c jl4 h (fun m ih=>?_)
     | refine a2P jl4 h (fun m ih=>?_)
     | refine a2Q jl4 h (fun m ih=>?_)
     | refine a2R jl4 h (fun m ih=>?_)
     | refine a2S jl4 h (fun m ih=>?_)
     | refine a2T jl4 h (fun m ih=>?_)
     | refine a2U jl4 h (fun m ih=>?_)
     | refine a1c jl5 h (fun m ih=>?_)
     | refine a2P jl5 h (fun m ih=>?_)
     | refine a2Q jl5 h (fun m ih=>?_)
     | refine a2R jl5 h (fun m ih=>?_)
     | refine a2S jl5 h (fun m ih=>?_)
     | refine a2T jl5 h (fun m ih=>?_)
     | refine a2U jl5 h (fun m ih=>?_)
     | refine a1c jl6 h (fun m ih=>?_)
     | refine a2P jl6 h (fun m ih=>?_)
     | refine a2Q jl6 h (fun m ih=>?_)
     | refine a2R jl6 h (fun m ih=>?_)
     | refine a2S jl6 h (fun m ih=>?_)
     | refine a2T jl6 h (fun m ih=>?_)
     | refine a2U jl6 h (fun m ih=>?_)
    )
  |((with_reducible refine opI ?_);first
    | refine kP_nil rfl ?_
    | refine b3r rfl ?_
    | refine b7B rfl ?_)
  | refine b6R rfl rfl rfl ?_
  | refine b4r rfl rfl rfl ?_
  | refine b49 rfl ?_
  | refine b7w rfl rfl rfl ?_
  | refine fe_ok rfl rfl ?_
  |((fail_if_success (with_reducible refine evI ?_));refine evI ?_)
  |((fail_if_success (with_reducible refine opI ?_));refine opI ?_)
  |((fail_if_success (with_reducible refine osI ?_));refine osI ?_)
  |(cases h;first
    | exact⟨_,_,_,rfl,rfl,rfl⟩
    | exact⟨_,_,rfl,rfl⟩
    | exact rfl
    | exact⟨_,rfl,rfl⟩
    | exact⟨_,rfl,_,_,_,rfl,rfl,rfl⟩
    | exact⟨_,rfl,_,_,rfl,rfl⟩
    | exact⟨rfl,rfl,_,_,rfl,_,_,rfl,rfl⟩
    | exact⟨rfl,rfl,_,_,rfl,_,rfl,_,_,rfl,rfl⟩)
  | exact⟨_,_,rfl,ih h⟩
  | exact trivial
  | refine And.intro ?_ ?_):P:=x
end Go.Vm
