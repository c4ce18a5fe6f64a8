/- Texts of ParsePrints, joined. -/
import Derived.Test.YtmippldlhnajkaaGreatDoorParsePrintsJ2
import Derived.KernelRfl
import Derived.Test.YtmippldlhnajkaaGreatDoorProg
set_option maxRecDepth 100000
set_option maxHeartbeats 20000000
set_option linter.unusedSimpArgs false
set_option linter.unusedVariables false
set_option linter.unusedSectionVars false
namespace Go.Vm
class OkF (env:Env){α:Type}(p:Option α)(g:outParam Nat)(l:outParam (List V))(H:outParam Hp)(o:outParam (α->Out)):Prop where
 ok:∀{r},p=some r->E env (.call g l) H=some (o r)
class AllC (α:Type)(Q:outParam ((α->Prop)->Prop)):Prop where
 all:∀{P},Q P -> ∀x,P x
instance {α β:Type}:AllC (α×β) (fun P=>∀a b,P (a,b)):=⟨fun h x=>h x.1 x.2⟩
instance {α β:Type}:AllC (Rs α β) (fun P=>(∀a,P (.ok a)) /\ ∀b,P (.pan b)):=⟨fun h x=>by cases x with|ok a=>exact h.1 a|pan b=>exact h.2 b⟩
instance:AllC Empty (fun _=>True):=⟨fun _ x=>x.elim⟩
class b7H {α:Type}(cl:List α->List V)(sz:outParam Nat)(c1:outParam (α->List V)):Prop where
 e:a3o sz c1 cl
instance:b7H clS 1 (fun s:Str=>[V.str s]):=⟨encS⟩
instance {k:IntKind}:b7H (clI k) 1 (fun n:Int=>[V.int k n]):=⟨encI k⟩
instance:b7H clB 1 (fun n:Bool=>[V.bool n]):=⟨encB⟩
instance {α:Type}{cl:List α->List V}:b7H (clSl cl) 1 (fun l:List α=>[V.slice .sealed (List.length l) (cl l)]):=⟨encSl cl⟩
class b6t (α:Type)(cl:outParam (List α->List V))(sz:outParam Nat)(c1:outParam (α->List V)):Prop where
 e:a3o sz c1 cl
instance:b6t Str clS 1 (fun s:Str=>[V.str s]):=⟨encS⟩
instance:b6t Int (clI .i64) 1 (fun n:Int=>[V.int .i64 n]):=⟨encI _⟩
instance:b6t Bool clB 1 (fun n:Bool=>[V.bool n]):=⟨encB⟩
instance {α:Type}{cl:List α->List V}{sz:Nat}{c1:α->List V} [b6t α cl sz c1]:b6t (List α) (clSl cl) 1 (fun l:List α=>[V.slice .sealed (List.length l) (cl l)]):=⟨encSl cl⟩
@[reducible] def lk (t:Nat) (fr:Fr):V:=Go.Vm.look t fr
def cH (H:Hp)(k j:Nat):V:=match hget k H with
 | some (.row cs)=>(cs[j]?).getD .undef
 | _=>.undef
def oH (H:Hp)(k:Nat):Obj:=(hget k H).getD .gone
def ow (o:Own):V->V | .slice _ n cs=>.slice o n cs|v=>v
def agC (v:V)(j:Nat):V:=match v with
 | .agg cs=>(cs[j]?).getD .undef
 | _=>.undef
def lnV:V->Nat | .slice _ n _=>n|_=>0
def FE (j:Fr×Hp)(G:Fr->Hp->Prop):Prop:=∃fr H,fF j.1 some=some fr/\fH j.2 some=some H/\G fr H
theorem FE_ok {j:Fr×Hp}{G:Fr->Hp->Prop}(h:FE j G):G j.1 j.2:=by
 obtain⟨fr,H,h1,h2,h3⟩:=h;rw[fF_eq]at h1;rw[b2E]at h2;cases h1;cases h2;exact h3
def b6h (fr:Fr)(o:Oper):Bool:=match o.guard with
 | some _=>false
 | none=>match o.op with
  | .indexAddr _ a _=>match ev fr a with
   | some (.slice ..)=>false
   | _=>true
  | .index ..=>false
  | .slice _ a lo hi _=>match ev fr a,lo,hi with
   | some (.str _),_,_=>false
   | _,none,none=>true
   | _,_,_=>false
  | .binOp op _ a _ _=>match op with
   | .add=>match ev fr a with
    | some (.str _)=>false
    | _=>true
   | .quo | .rem=>false
   | _=>true
  | .load _ a=>match ev fr a with
   | some (.cptr _)=>false
   | _=>true
  | .convert _ _ a=>match ev fr a with
   | some (.int ..)=>true
   | _=>false
  | .call {callee:=.builtin .len,.. } | .call {callee:=.builtin .min,.. } | .call {callee:=.builtin .max,.. }=>true
  | .call _ | .mapUpdate .. | .lookup .. | .insert .. | .makeSlice .. | .panic _ | .pick ..=>false
  | _=>true
section
variable {β:Type}
def c3H (env:Env)(orc:Orc):List Oper->Fr->Hp ->(List Oper->Fr->Hp->Option β)->Option β
 | [],fr,H,k=>k [] fr H
 | o::rest,fr,H,k=>match b6h fr o with
  | false=>k (o::rest) fr H
  | true=>match N8 o.op with
   | true=>match a0c env.T fr o.op with
    | some v=>fA v fun v=>c3H env orc rest (U9 o.dst v fr) H k
    | none=>none
   | false=>match U4 env orc fr H o with
    | some (.val v H1)=>fV v fun v=>fH H1 fun H1=>c3H env orc rest (U9 o.dst v fr) H1 k
    | _=>none
end
section
variable {env:Env} {orc:Orc} {f nr:Nat} {ops:Array Oper} {o:Oper} {rest rest':List Oper} {fr fr1 fr':Fr} {H H1 H':Hp} {K:Res->Prop}
theorem b46 (h:b6h fr o=true):E8 ops o fr=some true:=by
 unfold b6h at h;split at h
 ·cases h
 ·rename_i hg;simp only[E8,hg]
theorem b8r:∀{rest:List Oper} {fr:Fr} {H:Hp} (_:c3H env orc rest fr H (fun l fr H=>some (l,fr,H))=some (rest',fr',H')) (_:Os env orc ops rest' fr' H' K),Os env orc ops rest fr H K
 | [],fr,H,h,h2=>by cases h;exact h2
 | o::rest,fr,H,h,h2=>by
  unfold c3H at h;split at h
  ·cases h;exact h2
  ·rename_i hs;split at h
   ·rename_i hp;split at h
    ·rename_i v hv;rw[b8J]at h;exact a5z (b46 hs) hp hv (b8r h h2)
    ·cases h
   ·rename_i hp;split at h
    ·rename_i v H1 hv;rw[fV_eq,b2E]at h;exact a1U (b46 hs) hp hv (b8r h h2)
    ·cases h
theorem oR (hs:b6h fr o=true)(h:c3H env orc (o::rest) fr H (fun l fr H=>some (l,fr,H))=some (rest',fr',H'))(h2:Os env orc ops rest' fr' H' K):Os env orc ops (o::rest) fr H K:=b8r h h2
def CallR (env:Env)(orc:Orc)(ops:Array Oper)(o:Oper)(rest:List Oper)(fr:Fr)(H:Hp)(ns:List Nat)(K:Res->Prop):Out->Prop | .ret v H3=>∃v4 H4,a6Z (a1p (K4 ns (newName o)) dep v)=some v4/\Z8 (a1T (K4 ns (newName o)) H3 H)=some H4/\a5d H H3 (newName o) ns.length=true/\Os env orc ops rest (U9 o.dst v4 fr) H4 K | .pan v H3=>∃v4 H4,a6Z (a1p (K4 ns (newName o)) dep v)=some v4/\Z8 (a1T (K4 ns (newName o)) H3 H)=some H4/\a5d H H3 (newName o) ns.length=true/\K (.panic v4,fr,H4) | .res _=>False
def c5S (env:Env)(orc:Orc)(ops:Array Oper)(o:Oper)(rest:List Oper)(fr:Fr)(H:Hp)(K:Res->Prop):Out->Prop | .ret v H3=>∃v2,H3=[]/\a1p a5x dep v=some v2/\Os env orc ops rest (U9 o.dst v2 fr) H K|_=>False
section
variable {α γ:Type} {p:Option α} {k:α->Option γ} {y:γ} {g:Nat} {out:α->Out} {args:Array Operand} {at_:Array TypeId} {fo:Operand} {l a c ac l2:List V} {ns:List Nat} {Hc:Hp}
theorem bindP_b {β δ:Type}{q:Option (Rs α β)}{k:α->Option δ}{e:β->Option δ}{y:δ}(h:bindP q k e=some y):q.bind (fun x=>match x with | .ok a=>k a | .pan b=>e b)=some y:=by
 cases q with
 | none=>exact h
 | some x=>cases x<;>exact h
theorem k_call (ho:o.op=.call ⟨.value fo,args,at_⟩)(h:p.bind k=some y) [i:OkF env p g ac Hc out] (hw:E8 ops o fr=some true)(hf:ev fr fo=some (.func (.func g) a c))(hl:evL fr args.toList=some l)
  (hq:(env.quiet g||env.look g)=false) (hp:b0b env g (a++l++c) H=some (ns,ac,Hc)) (hk:∀x,k x=some y->CallR env (E env) ops o rest fr H ns K (out x)):Os env (E env) ops (o::rest) fr H K:=by
 obtain⟨x,h1,h2⟩:=a3J h;have h3:=hk x h2;have h4:=i.ok h1;revert h3 h4;cases out x with
 | ret v H3 =>
  rintro⟨v4,H4,e1,e2,e3,e4⟩ h4;exact c4F hw ho hf hl (b1Q hq hp h4 e1 e2 e3) e4
 | pan v H3 =>
  rintro⟨v4,H4,e1,e2,e3,e4⟩ h4;exact c9j hw ho hf hl (c3M hq hp h4 e1 e2 e3) e4
 | res r=>exact fun h=>h.elim
def LookR (env:Env)(orc:Orc)(ops:Array Oper)(o:Oper)(rest:List Oper)(fr:Fr)(H:Hp)(ns:List Nat)(K:Res->Prop):Out->Prop | .ret v H3=>∃v4,a6Z (a1p (K4 ns (newName o)) dep v)=some v4/\Z8 (a1T (K4 ns (newName o)) H3 H)=some H/\a5d H H3 (newName o) ns.length=true/\Os env orc ops rest (U9 o.dst v4 fr) H K|_=>False
theorem k_look (ho:o.op=.call ⟨.value fo,args,at_⟩)(h:p.bind k=some y) [i:OkF env p g ac Hc out] (hw:E8 ops o fr=some true)(hf:ev fr fo=some (.func (.func g) a c))(hl:evL fr args.toList=some l)
  (hq:env.quiet g=false) (hlk:env.look g=true) (hp:b0b env g (a++l++c) H=some (ns,ac,Hc)) (hk:∀x,k x=some y->LookR env (E env) ops o rest fr H ns K (out x)):Os env (E env) ops (o::rest) fr H K:=by
 obtain⟨x,h1,h2⟩:=a3J h;have h3:=hk x h2;have h4:=i.ok h1;revert h3 h4;cases out x with
 | ret v H3 =>
  rintro⟨v4,e1,e2,e3,e4⟩ h4;exact c4F hw ho hf hl (c1W hq hlk hp h4 e1 e2 e3) e4
 | pan v H3=>exact fun h=>h.elim
 | res r=>exact fun h=>h.elim
theorem k_quiet (ho:o.op=.call ⟨.value fo,args,at_⟩)(h:p.bind k=some y) [i:OkF env p g l2 [] out] (hw:E8 ops o fr=some true)(hf:ev fr fo=some (.func (.func g) [] []))(hq:env.quiet g=true)(hl:evL fr args.toList=some l)
  (hr:a1a (a1p a5x dep) (l.map b0x)=some l2) (hk:∀x,k x=some y->c5S env (E env) ops o rest fr H K (out x)):Os env (E env) ops (o::rest) fr H K:=by
 obtain⟨x,h1,h2⟩:=a3J h;have h3:=hk x h2;have h4:=i.ok h1;revert h3 h4;cases out x with
 | ret v H3 =>
  rintro⟨v2,rfl,e1,e2⟩ h4;exact c9l hw ho hf hq hl hr h4 e1 e2
 | pan v H3=>exact fun h=>h.elim
 | res r=>exact fun h=>h.elim
end
section
variable {α γ:Type} {y:γ} {sz:Nat} {c1:α->List V} {cl:List α->List V}
theorem k_idx {l:List α}{i:Int}{k:α->Option γ}{kk:IntKind}{t e:Nat}{a b:Operand}{w:Own}{yt ye:Ty}(ho:o.op=.indexAddr t a b)(h:(idx' l i).bind k=some y)(ha:ev fr a=some (.slice w l.length (cl l))) [he:b7H cl sz c1]
  (hk:∀x,k x=some y->Os env orc ops rest (U9 o.dst (.cptr (c1 x++cl (l.drop (i.toNat+1)))) fr) H K)
  (hw:E8 ops o fr=some true:=by exact rfl) (hb:ev fr b=some (.int kk i):=by exact rfl) (h1:K8 t env.T=some yt:=by exact rfl) (h2:yt.sh=.slice e:=by exact rfl) (h3:K8 e env.T=some ye:=by exact rfl) (h4:ye.size=sz:=by exact rfl):Os env orc ops (o::rest) fr H K:=by
 obtain⟨x,g1,g2⟩:=a3J h;exact os_idx he.e g1 hw ho ha hb h1 h2 h3 h4 (hk x g2)
theorem k_idxS {s:Str}{i:Int}{k:Int->Option γ}{kk:IntKind}{t:Nat}{a b:Operand}{yt:Ty}(ho:o.op=.index t a b)(h:(idxS s i).bind k=some y)(hk:∀x,k x=some y->Os env orc ops rest (U9 o.dst (.int .u8 x) fr) H K)
  (hw:E8 ops o fr=some true:=by exact rfl) (ha:ev fr a=some (.str s):=by exact rfl) (hb:ev fr b=some (.int kk i):=by exact rfl) (h1:K8 t env.T=some yt:=by exact rfl) (h2:yt.sh=.string:=by exact rfl):Os env orc ops (o::rest) fr H K:=by
 obtain⟨x,g1,g2⟩:=a3J h;exact os_idxS g1 hw ho ha hb h1 h2 (hk x g2)
theorem k_subS {s:Str}{i j:Int}{k:Str->Option γ}{t:Nat}{a:Operand}{lo hi:Option Operand}{l' h':Option V}{yt:Ty}(ho:o.op=.slice t a lo hi none)(h:(subS s i j).bind k=some y)(hk:∀x,k x=some y->Os env orc ops rest (U9 o.dst (.str x) fr) H K)
  (hw:E8 ops o fr=some true:=by exact rfl) (ha:ev fr a=some (.str s):=by exact rfl) (hl:evX fr lo=some l':=by exact rfl) (hh:evX fr hi=some h':=by exact rfl) (hi':bnd l' 0=some i:=by exact rfl) (hj':bnd h' s.length=some j:=by exact rfl)
  (h1:K8 t env.T=some yt:=by exact rfl) (h2:yt.sh=.string:=by exact rfl):Os env orc ops (o::rest) fr H K:=by
 obtain⟨x,g1,g2⟩:=a3J h;exact os_subS g1 hw ho ha hl hh hi' hj' h1 h2 (hk x g2)
theorem k_subL {l:List α}{i j:Int}{k:List α->Option γ}{t e:Nat}{w:Own}{a:Operand}{lo hi:Option Operand}{l' h':Option V}{yt ye:Ty}(ho:o.op=.slice t a lo hi none)(h:(b2x l i j).bind k=some y)(ha:ev fr a=some (.slice w l.length (cl l))) [he:b7H cl sz c1]
  (hk:∀x:List α,k x=some y->Os env orc ops rest (U9 o.dst (.slice .sealed x.length (cl x)) fr) H K)
  (hw:E8 ops o fr=some true:=by exact rfl) (hl:evX fr lo=some l':=by exact rfl) (hh:evX fr hi=some h':=by exact rfl) (hi':bnd l' 0=some i:=by exact rfl) (hj':bnd h' l.length=some j:=by exact rfl)
  (h1:K8 t env.T=some yt:=by exact rfl) (h2:yt.sh=.slice e:=by exact rfl) (h3:K8 e env.T=some ye:=by exact rfl) (h4:ye.size=sz:=by exact rfl) (hq:(l'.isSome||h'.isSome)=true:=by exact rfl):Os env orc ops (o::rest) fr H K:=by
 obtain⟨x,g1,g2⟩:=a3J h;exact os_subL he.e g1 hw ho ha hl hh hi' hj' h1 h2 h3 h4 hq (hk x g2)
theorem k_cat {s u:Str}{k:Str->Option γ}{t t2:Nat}{a b:Operand}(ho:o.op=.binOp .add t a b t2)(h:(cat s u).bind k=some y)(hk:∀x,k x=some y->Os env orc ops rest (U9 o.dst (.str x) fr) H K)
  (hw:E8 ops o fr=some true:=by exact rfl) (ha:ev fr a=some (.str s):=by exact rfl) (hb:ev fr b=some (.str u):=by exact rfl):Os env orc ops (o::rest) fr H K:=by
 obtain⟨x,g1,g2⟩:=a3J h;exact os_cat g1 hw ho ha hb (hk x g2)
section
variable {l m:List α} {k:List α->Option γ} {bytes:Nat} {args:Array Operand} {at_:Array TypeId} {a b:Operand} {t xt e g:Nat} {w:Own} {yt yx ye:Ty} {v:V}
theorem k_app (ho:o.op=.call ⟨.builtin .append,args,at_⟩)(h:(app bytes l m).bind k=some y)(ha:args.toList=[a,b])(hs:ev fr a=some (.slice (.tag g) l.length (cl l))) [he:b7H cl sz c1]
  (hm:Nat.beq m.length 0=false) (hk:∀x,k x=some y -> ∃H1,Z8 (some (hset g (.tip (tpe sz x.length) x.length) H))=some H1/\Os env orc ops rest (U9 o.dst (.slice (.tag g) x.length (cl x)) fr) H1 K)
  (hw:E8 ops o fr=some true:=by exact rfl) (ht:at_.toList=[t,xt]:=by exact rfl) (hv:ev fr b=some v:=by exact rfl)
  (h1:K8 t env.T=some yt:=by exact rfl) (h2:K8 xt env.T=some yx:=by exact rfl) (h3:yt.sh=.slice e:=by exact rfl) (h4:a9v yx.sh=true:=by exact rfl) (h5:K8 e env.T=some ye:=by exact rfl) (h6:ye.size=sz:=by exact rfl) (h7:ye.bytes=bytes:=by exact rfl) (h8:Nat.beq sz 0=false:=by exact rfl)
  (h9:a6U env.T e v H=some (m.length,cl m):=by exact(b2O (a2r rfl) rfl)) (h10:hget g H=some (.tip (tpe sz l.length) l.length):=by exact rfl):Os env orc ops (o::rest) fr H K:=by
 obtain⟨x,g1,g2⟩:=a3J h;obtain⟨H1,g3,g4⟩:=hk x g2;exact c6O he.e g1 hw ho ha ht hs hv h1 h2 h3 h4 h5 h6 h7 h8 h9 hm h10 g3 g4
theorem k_appT (ho:o.op=.call ⟨.builtin .append,args,at_⟩)(h:(app bytes l m).bind k=some y)(ha:args.toList=[a,b]) [he:b6t α cl sz c1]
  (hm:Nat.beq m.length 0=false) (hk:∀x,k x=some y -> ∃H1,Z8 (some (hset g (.tip (tpe sz x.length) x.length) H))=some H1/\Os env orc ops rest (U9 o.dst (.slice (.tag g) x.length (cl x)) fr) H1 K)
  (hs:ev fr a=some (.slice (.tag g) l.length (cl l)):=by exact rfl) (hw:E8 ops o fr=some true:=by exact rfl) (ht:at_.toList=[t,xt]:=by exact rfl) (hv:ev fr b=some v:=by exact rfl)
  (h1:K8 t env.T=some yt:=by exact rfl) (h2:K8 xt env.T=some yx:=by exact rfl) (h3:yt.sh=.slice e:=by exact rfl) (h4:a9v yx.sh=true:=by exact rfl) (h5:K8 e env.T=some ye:=by exact rfl) (h6:ye.size=sz:=by exact rfl) (h7:ye.bytes=bytes:=by exact rfl) (h8:Nat.beq sz 0=false:=by exact rfl)
  (h9:a6U env.T e v H=some (m.length,cl m):=by exact(b2O (a2r rfl) rfl)) (h10:hget g H=some (.tip (tpe sz l.length) l.length):=by exact rfl):Os env orc ops (o::rest) fr H K:=by
 obtain⟨x,g1,g2⟩:=a3J h;obtain⟨H1,g3,g4⟩:=hk x g2;exact c6O he.e g1 hw ho ha ht hs hv h1 h2 h3 h4 h5 h6 h7 h8 h9 hm h10 g3 g4
theorem k_appD (ho:o.op=.call ⟨.builtin .append,args,at_⟩)(h:(app bytes l m).bind k=some y)(ha:args.toList=[a,b])(hs:ev fr a=some (.slice (.tag g) l.length (cl l))) [he:b7H cl sz c1] {w2:Own}(hv:ev fr b=some (.slice w2 m.length (cl m)))
  (hk:∀x,k x=some y -> ∃H1,Z8 (some (hset g (.tip (tpe sz x.length) x.length) H))=some H1/\Os env orc ops rest (U9 o.dst (.slice (.tag g) x.length (cl x)) fr) H1 K)
  (hw:E8 ops o fr=some true:=by exact rfl) (ht:at_.toList=[t,xt]:=by exact rfl)
  (h1:K8 t env.T=some yt:=by exact rfl) (h2:K8 xt env.T=some yx:=by exact rfl) (h3:yt.sh=.slice e:=by exact rfl) (h4:a9v yx.sh=true:=by exact rfl) (h5:K8 e env.T=some ye:=by exact rfl) (h6:ye.size=sz:=by exact rfl) (h7:ye.bytes=bytes:=by exact rfl) (h8:Nat.beq sz 0=false:=by exact rfl)
  (h10:hget g H=some (.tip (tpe sz l.length) l.length):=by exact rfl) (hS:Z8 (some (hset g (.tip (tpe sz l.length) l.length) H))=some H:=by exact rfl):Os env orc ops (o::rest) fr H K:=by
 obtain⟨x,g1,g2⟩:=a3J h;have h9:a6U env.T e (.slice w2 m.length (cl m)) H=some (m.length,cl m):=by
  have:=he.e.length m;subst h6;simp only[a6U,h5];exact b2O (a2r this.symm) rfl
 obtain⟨H1,g3,g4⟩:=hk x g2;exact c8i he.e g1 hw ho ha ht hs hv h1 h2 h3 h4 h5 h6 h7 h8 h9 h10 hS g3 g4
theorem k_appU (ho:o.op=.call ⟨.builtin .append,args,at_⟩)(h:(app bytes l m).bind k=some y)(ha:args.toList=[a,b]) [he:b6t α cl sz c1] {w2:Own}(hv:ev fr b=some (.slice w2 m.length (cl m)))
  (hk:∀x,k x=some y -> ∃H1,Z8 (some (hset g (.tip (tpe sz x.length) x.length) H))=some H1/\Os env orc ops rest (U9 o.dst (.slice (.tag g) x.length (cl x)) fr) H1 K)
  (hs:ev fr a=some (.slice (.tag g) l.length (cl l)):=by exact rfl) (hw:E8 ops o fr=some true:=by exact rfl) (ht:at_.toList=[t,xt]:=by exact rfl)
  (h1:K8 t env.T=some yt:=by exact rfl) (h2:K8 xt env.T=some yx:=by exact rfl) (h3:yt.sh=.slice e:=by exact rfl) (h4:a9v yx.sh=true:=by exact rfl) (h5:K8 e env.T=some ye:=by exact rfl) (h6:ye.size=sz:=by exact rfl) (h7:ye.bytes=bytes:=by exact rfl) (h8:Nat.beq sz 0=false:=by exact rfl)
  (h10:hget g H=some (.tip (tpe sz l.length) l.length):=by exact rfl) (hS:Z8 (some (hset g (.tip (tpe sz l.length) l.length) H))=some H:=by exact rfl):Os env orc ops (o::rest) fr H K:=by
 obtain⟨x,g1,g2⟩:=a3J h;have h9:a6U env.T e (.slice w2 m.length (cl m)) H=some (m.length,cl m):=by
  have:=he.e.length m;subst h6;simp only[a6U,h5];exact b2O (a2r this.symm) rfl
 obtain⟨H1,g3,g4⟩:=hk x g2;exact c8i he.e g1 hw ho ha ht hs hv h1 h2 h3 h4 h5 h6 h7 h8 h9 h10 hS g3 g4
theorem k_appN (ho:o.op=.call ⟨.builtin .append,args,at_⟩)(h:(app bytes l m).bind k=some y)(ha:args.toList=[a,b])(how:w=.nil∨w=.full) [he:b6t α cl sz c1]
  (hm:Nat.beq m.length 0=false) (hk:∀x,k x=some y -> ∃H1,Z8 (some (hset (newName o) (.tip (tpe sz x.length) x.length) H))=some H1/\Os env orc ops rest (U9 o.dst (.slice (.tag (newName o)) x.length (cl x)) fr) H1 K)
  (hs:ev fr a=some (.slice w l.length (cl l)):=by exact rfl) (hw:E8 ops o fr=some true:=by exact rfl) (ht:at_.toList=[t,xt]:=by exact rfl) (hv:ev fr b=some v:=by exact rfl)
  (h1:K8 t env.T=some yt:=by exact rfl) (h2:K8 xt env.T=some yx:=by exact rfl) (h3:yt.sh=.slice e:=by exact rfl) (h4:a9v yx.sh=true:=by exact rfl) (h5:K8 e env.T=some ye:=by exact rfl) (h6:ye.size=sz:=by exact rfl) (h7:ye.bytes=bytes:=by exact rfl) (h8:Nat.beq sz 0=false:=by exact rfl)
  (h9:a6U env.T e v H=some (m.length,cl m):=by exact(b2O (a2r rfl) rfl)) (h10:hget (newName o) H=none:=by exact rfl):Os env orc ops (o::rest) fr H K:=by
 obtain⟨x,g1,g2⟩:=a3J h;obtain⟨H1,g3,g4⟩:=hk x g2;exact c8j he.e g1 hw ho ha ht how hs hv h1 h2 h3 h4 h5 h6 h7 h8 h9 hm h10 g3 g4
theorem k_appF (ho:o.op=.call ⟨.builtin .append,args,at_⟩)(h:(app bytes l m).bind k=some y)(ha:args.toList=[a,b])(how:w=.nil/\l=[]∨w=.full/\leN 1 l.length=true) [he:b6t α cl sz c1] {w2:Own}(hv:ev fr b=some (.slice w2 m.length (cl m)))
  (hk:∀x,k x=some y -> ∃H1,Z8 (some (hset (newName o) (.tip (tpe sz x.length) x.length) H))=some H1/\Os env orc ops rest (U9 o.dst (.slice (.tag (newName o)) x.length (cl x)) fr) H1 K)
  (hs:ev fr a=some (.slice w l.length (cl l)):=by exact rfl) (hw:E8 ops o fr=some true:=by exact rfl) (ht:at_.toList=[t,xt]:=by exact rfl)
  (h1:K8 t env.T=some yt:=by exact rfl) (h2:K8 xt env.T=some yx:=by exact rfl) (h3:yt.sh=.slice e:=by exact rfl) (h4:a9v yx.sh=true:=by exact rfl) (h5:K8 e env.T=some ye:=by exact rfl) (h6:ye.size=sz:=by exact rfl) (h7:ye.bytes=bytes:=by exact rfl) (h8:Nat.beq sz 0=false:=by exact rfl)
  (h10:hget (newName o) H=none:=by exact rfl):Os env orc ops (o::rest) fr H K:=by
 obtain⟨x,g1,g2⟩:=a3J h;have h9:a6U env.T e (.slice w2 m.length (cl m)) H=some (m.length,cl m):=by
  have:=he.e.length m;subst h6;simp only[a6U,h5];exact b2O (a2r this.symm) rfl
 obtain⟨H1,g3,g4⟩:=hk x g2;exact os_appF he.e g1 hw ho ha ht how hs hv h1 h2 h3 h4 h5 h6 h7 h8 h9 h10 g3 g4
end
end
def takeC:Nat->List V->Option (List V)
 | 0,_=>some []
 | n+1,c::cs=>match takeC n cs with
  | some r=>some (c::r)
  | none=>none
 | _+1,[]=>none
theorem c5u:∀{n:Nat} {cs c:List V},takeC n cs=some c->c.length=n /\ ∃r,cs=c++r
 | 0,cs,c,h=>by cases h;exact⟨rfl,cs,rfl⟩
 | n+1,[],c,h=>by cases h
 | n+1,d::cs,c,h=>by
  unfold takeC at h;split at h
  ·rename_i r hr;cases h;obtain⟨h1,q,h2⟩:=c5u hr;exact⟨by rw[List.length_cons,h1],q,by rw[h2];rfl⟩
  ·cases h
theorem k_loadA {t:Nat}{a:Operand}{cs c c':List V}{y:Ty}(ho:o.op=.load t a)(ha:ev fr a=some (.cptr cs))(h1:K8 t env.T=some y)(h2:a09 y.sh=true)(hs:takeC y.size cs=some c)(hf:fL c some=some c')
  (h:Os env orc ops rest (U9 o.dst (.agg c') fr) H K) (hw:E8 ops o fr=some true:=by exact rfl):Os env orc ops (o::rest) fr H K:=by
 rw[c3Y]at hf;cases hf;obtain⟨g1,r,g2⟩:=c5u hs;exact os_loadA hw ho ha g2 h1 h2 g1 h
theorem k_load0 {t:Nat}{a:Operand}{cs:List V}(ho:o.op=.load t a)(ha:ev fr a=some (.cptr cs)){v:V}{H1:Hp}(hv:b8Q (U4 env orc fr H o)=some (.val v H1))(h:Os env orc ops rest (U9 o.dst v fr) H1 K)(hw:E8 ops o fr=some true:=by exact rfl):Os env orc ops (o::rest) fr H K :=
 c6P hw (by rw[ho];rfl) hv h
theorem k_if {c:Operand}{a b:Code}{t:Bool}{γ:Type}{X Y z:γ}(hc:ev fr c=some (.bool t))(h:cond t X Y=z)(h1:t=true->X=z->Ev env orc f nr a fr H K)(h2:t=false->Y=z->Ev env orc f nr b fr H K):Ev env orc f nr (.cond c a b) fr H K:=by
 cases t with
 | true=>exact a4I hc rfl (h1 rfl h)
 | false=>exact a3L hc rfl (h2 rfl h)
theorem k_guard {j d:Nat}{w c:Bool}{fr':Fr}{γ:Type}{X Y z:γ}(h:cond c X Y=z)(hg:o.guard=some (j,w))(hd:(ops[j]?).bind (·.dst)=some d)(hf:fr =(d,.bool c)::fr')
  (h1:c=true->X=z->Os env orc ops (o::rest) ((d,.bool true)::fr') H K) (h2:c=false->Y=z->Os env orc ops (o::rest) ((d,.bool false)::fr') H K):Os env orc ops (o::rest) fr H K:=by
 subst hf;cases c with
 | true=>exact h1 rfl h
 | false=>exact h2 rfl h
theorem k_gd {b:Bool}{γ:Type}{X:Option γ}{z:γ}{G:Prop}(h:gdO b X=some z)(h1:b=true->X=some z->G):G:=by
 obtain⟨h2,h3⟩:=gdO_inv h;exact h1 h2 h3
structure Jn (i:Nat)(α:Type) where
 j:Fr->Hp->α->Fr×Hp
theorem b0g {α γ:Type}{a b:Code}{A:Option α}{k:α->Option γ}{y:γ}(J:Jn (a3E b) α)(h:A.bind k=some y)
  (hA:∀x,A=some x->Ev env orc f nr a fr H (segK env f nr (a3E b) (J.j fr H x).1 (J.j fr H x).2 K)) (hB:∀x,k x=some y->FE (J.j fr H x) fun fr H=>Ev env orc f nr b fr H K) (hc:env.cut f (a3E b)=true:=by exact rfl):Ev env orc f nr (.seq a b) fr H K:=by
 obtain⟨x,h1,h2⟩:=a3J h;exact ev_seg _ _ hc (hA x h1) (FE_ok (hB x h2))
theorem a7a {α ρ:Type}{a b:Code}{A:Option (Lr α ρ)}{k:α->Option ρ}{y:ρ}(KR:ρ->Res->Prop)(J:Jn (a3E b) α)(h:a1c A k=some y)
  (hA:∀x,A=some x->Ev env orc f nr a fr H (segL env f nr (a3E b) x (fun x=>(J.j fr H x).1) (fun x=>(J.j fr H x).2) KR)) (hB:∀x,k x=some y->FE (J.j fr H x) fun fr H=>Ev env orc f nr b fr H K) (hR:∀r,KR y r->r.1 ≠ .normal->K r:=by exact(fun r hr hn=>by obtain⟨e,fr1,H1⟩:=r;cases e<;>first|exact absurd rfl hn|exact hr.elim|exact hr)) (hc:env.cut f (a3E b)=true:=by exact rfl):Ev env orc f nr (.seq a b) fr H K:=by
 obtain⟨x,h1,h2⟩:=c8O h;refine c7L x _ _ hc (hA x h1) (fun z hz=>?_) (fun z r hz hr hn=>?_)
 ·subst hz;exact FE_ok (hB z h2)
 ·subst hz;cases h2;exact hR r hr hn
theorem a7b {α γ ρ:Type}{a b:Code}{A:Option (Lr α ρ)}{k:α->Option (Lr γ ρ)}{y:Lr γ ρ}(KR:ρ->Res->Prop)(J:Jn (a3E b) α)(h:b8u A k=some y)
  (hA:∀x,A=some x->Ev env orc f nr a fr H (segL env f nr (a3E b) x (fun x=>(J.j fr H x).1) (fun x=>(J.j fr H x).2) KR)) (hB:∀x,k x=some y->FE (J.j fr H x) fun fr H=>Ev env orc f nr b fr H K) (hR:∀z r,y=.out z->KR z r->r.1 ≠ .normal->K r:=by exact(fun z r hz hr hn=>by obtain⟨e,fr1,H1⟩:=r;subst hz;cases e<;>first|exact absurd rfl hn|exact hr.elim|exact⟨_,rfl,hr⟩)) (hc:env.cut f (a3E b)=true:=by exact rfl):Ev env orc f nr (.seq a b) fr H K:=by
 obtain⟨x,h1,h2⟩:=c8P h;refine c7L x _ _ hc (hA x h1) (fun z hz=>?_) (fun z r hz hr hn=>?_)
 ·subst hz;exact FE_ok (hB z h2)
 ·subst hz;cases h2;exact hR z r rfl hr hn
theorem k_lp {σ ρ:Type}{body:Code}{g:Nat->σ->Option ρ}{y:ρ}(J:σ->Fr×Hp)(h0:∀x,g 0 x=none)
  (hr:∀m,(∀x',g m x'=some y->Lp env f nr body (J x').1 (J x').2 K) -> ∀x,g (m+1) x=some y->FE (J x) fun fr H=>Ev env (E env) f nr body fr H (a9T env f nr body K)):∀m x,g m x=some y->Lp env f nr body (J x).1 (J x).2 K
 | 0,x,h=>by rw[h0]at h;cases h
 | m+1,x,h=>c4y (FE_ok (hr m (fun x' h'=>k_lp J h0 hr m x' h') x h))
theorem a6u {σ ρ:Type}{body:Code}{g:Nat->σ->Option ρ}{n:Nat}{s:σ}{y:ρ}(J:Jn (a1t body) σ)(h:g n s=some y)
  (hr:∀m,(∀{x'},g m x'=some y->Lp env f nr body (J.j fr H x').1 (J.j fr H x').2 K) -> ∀x,g (m+1) x=some y->FE (J.j fr H x) fun fr H=>Ev env (E env) f nr body fr H (a9T env f nr body K)) (h0:∀x,g 0 x=none:=by intros;rfl) (hn:normal env f nr (a1t body) fr H=some (J.j fr H s):=by exact rfl):Ev env (E env) f nr (.loop body) fr H K :=
 a6s (fr1:=(J.j fr H s).1) (H1:=(J.j fr H s).2) hn (k_lp (J.j fr H) h0 (fun m ih x hx=>hr m (fun h=>ih _ h) x hx) n s h)
theorem b4m {σ1 σ2 ρ:Type}{body:Code}{g:Nat->σ1->σ2->Option ρ}{n:Nat}{a1:σ1}{a2:σ2}{y:ρ}(J:Jn (a1t body) (σ1×σ2))(h:g n a1 a2=some y)
  (hr:∀m,(∀{b1 b2},g m b1 b2=some y->Lp env f nr body (J.j fr H (b1,b2)).1 (J.j fr H (b1,b2)).2 K) -> ∀a1 a2,g (m+1) a1 a2=some y->FE (J.j fr H (a1,a2)) fun fr H=>Ev env (E env) f nr body fr H (a9T env f nr body K)) (h0:∀a1 a2,g 0 a1 a2=none:=by intros;rfl) (hn:normal env f nr (a1t body) fr H=some (J.j fr H (a1,a2)):=by exact rfl):Ev env (E env) f nr (.loop body) fr H K :=
 a6u (g:=fun m x=>g m x.1 x.2) (s:=(a1,a2)) J h (fun m ih x hx=>hr m (fun{b1 b2} h=>ih (x':=(b1,b2)) h) x.1 x.2 hx) (fun x=>h0 x.1 x.2) hn
theorem b4n {σ1 σ2 σ3 ρ:Type}{body:Code}{g:Nat->σ1->σ2->σ3->Option ρ}{n:Nat}{a1:σ1}{a2:σ2}{a3:σ3}{y:ρ}(J:Jn (a1t body) (σ1×σ2×σ3))(h:g n a1 a2 a3=some y)
  (hr:∀m,(∀{b1 b2 b3},g m b1 b2 b3=some y->Lp env f nr body (J.j fr H (b1,b2,b3)).1 (J.j fr H (b1,b2,b3)).2 K) -> ∀a1 a2 a3,g (m+1) a1 a2 a3=some y->FE (J.j fr H (a1,a2,a3)) fun fr H=>Ev env (E env) f nr body fr H (a9T env f nr body K)) (h0:∀a1 a2 a3,g 0 a1 a2 a3=none:=by intros;rfl) (hn:normal env f nr (a1t body) fr H=some (J.j fr H (a1,a2,a3)):=by exact rfl):Ev env (E env) f nr (.loop body) fr H K :=
 a6u (g:=fun m x=>g m x.1 x.2.1 x.2.2) (s:=(a1,a2,a3)) J h (fun m ih x hx=>hr m (fun{b1 b2 b3} h=>ih (x':=(b1,b2,b3)) h) x.1 x.2.1 x.2.2 hx) (fun x=>h0 x.1 x.2.1 x.2.2) hn
theorem b4o {σ1 σ2 σ3 σ4 ρ:Type}{body:Code}{g:Nat->σ1->σ2->σ3->σ4->Option ρ}{n:Nat}{a1:σ1}{a2:σ2}{a3:σ3}{a4:σ4}{y:ρ}(J:Jn (a1t body) (σ1×σ2×σ3×σ4))(h:g n a1 a2 a3 a4=some y)
  (hr:∀m,(∀{b1 b2 b3 b4},g m b1 b2 b3 b4=some y->Lp env f nr body (J.j fr H (b1,b2,b3,b4)).1 (J.j fr H (b1,b2,b3,b4)).2 K) -> ∀a1 a2 a3 a4,g (m+1) a1 a2 a3 a4=some y->FE (J.j fr H (a1,a2,a3,a4)) fun fr H=>Ev env (E env) f nr body fr H (a9T env f nr body K)) (h0:∀a1 a2 a3 a4,g 0 a1 a2 a3 a4=none:=by intros;rfl) (hn:normal env f nr (a1t body) fr H=some (J.j fr H (a1,a2,a3,a4)):=by exact rfl):Ev env (E env) f nr (.loop body) fr H K :=
 a6u (g:=fun m x=>g m x.1 x.2.1 x.2.2.1 x.2.2.2) (s:=(a1,a2,a3,a4)) J h (fun m ih x hx=>hr m (fun{b1 b2 b3 b4} h=>ih (x':=(b1,b2,b3,b4)) h) x.1 x.2.1 x.2.2.1 x.2.2.2 hx) (fun x=>h0 x.1 x.2.1 x.2.2.1 x.2.2.2) hn
theorem b4p {σ1 σ2 σ3 σ4 σ5 ρ:Type}{body:Code}{g:Nat->σ1->σ2->σ3->σ4->σ5->Option ρ}{n:Nat}{a1:σ1}{a2:σ2}{a3:σ3}{a4:σ4}{a5:σ5}{y:ρ}(J:Jn (a1t body) (σ1×σ2×σ3×σ4×σ5))(h:g n a1 a2 a3 a4 a5=some y)
  (hr:∀m,(∀{b1 b2 b3 b4 b5},g m b1 b2 b3 b4 b5=some y->Lp env f nr body (J.j fr H (b1,b2,b3,b4,b5)).1 (J.j fr H (b1,b2,b3,b4,b5)).2 K) -> ∀a1 a2 a3 a4 a5,g (m+1) a1 a2 a3 a4 a5=some y->FE (J.j fr H (a1,a2,a3,a4,a5)) fun fr H=>Ev env (E env) f nr body fr H (a9T env f nr body K)) (h0:∀a1 a2 a3 a4 a5,g 0 a1 a2 a3 a4 a5=none:=by intros;rfl) (hn:normal env f nr (a1t body) fr H=some (J.j fr H (a1,a2,a3,a4,a5)):=by exact rfl):Ev env (E env) f nr (.loop body) fr H K :=
 a6u (g:=fun m x=>g m x.1 x.2.1 x.2.2.1 x.2.2.2.1 x.2.2.2.2) (s:=(a1,a2,a3,a4,a5)) J h (fun m ih x hx=>hr m (fun{b1 b2 b3 b4 b5} h=>ih (x':=(b1,b2,b3,b4,b5)) h) x.1 x.2.1 x.2.2.1 x.2.2.2.1 x.2.2.2.2 hx) (fun x=>h0 x.1 x.2.1 x.2.2.1 x.2.2.2.1 x.2.2.2.2) hn
theorem b4q {σ1 σ2 σ3 σ4 σ5 σ6 ρ:Type}{body:Code}{g:Nat->σ1->σ2->σ3->σ4->σ5->σ6->Option ρ}{n:Nat}{a1:σ1}{a2:σ2}{a3:σ3}{a4:σ4}{a5:σ5}{a6:σ6}{y:ρ}(J:Jn (a1t body) (σ1×σ2×σ3×σ4×σ5×σ6))(h:g n a1 a2 a3 a4 a5 a6=some y)
  (hr:∀m,(∀{b1 b2 b3 b4 b5 b6},g m b1 b2 b3 b4 b5 b6=some y->Lp env f nr body (J.j fr H (b1,b2,b3,b4,b5,b6)).1 (J.j fr H (b1,b2,b3,b4,b5,b6)).2 K) -> ∀a1 a2 a3 a4 a5 a6,g (m+1) a1 a2 a3 a4 a5 a6=some y->FE (J.j fr H (a1,a2,a3,a4,a5,a6)) fun fr H=>Ev env (E env) f nr body fr H (a9T env f nr body K)) (h0:∀a1 a2 a3 a4 a5 a6,g 0 a1 a2 a3 a4 a5 a6=none:=by intros;rfl) (hn:normal env f nr (a1t body) fr H=some (J.j fr H (a1,a2,a3,a4,a5,a6)):=by exact rfl):Ev env (E env) f nr (.loop body) fr H K :=
 a6u (g:=fun m x=>g m x.1 x.2.1 x.2.2.1 x.2.2.2.1 x.2.2.2.2.1 x.2.2.2.2.2) (s:=(a1,a2,a3,a4,a5,a6)) J h (fun m ih x hx=>hr m (fun{b1 b2 b3 b4 b5 b6} h=>ih (x':=(b1,b2,b3,b4,b5,b6)) h) x.1 x.2.1 x.2.2.1 x.2.2.2.1 x.2.2.2.2.1 x.2.2.2.2.2 hx) (fun x=>h0 x.1 x.2.1 x.2.2.1 x.2.2.2.1 x.2.2.2.2.1 x.2.2.2.2.2) hn
theorem b4r {σ1 σ2 σ3 σ4 σ5 σ6 σ7 ρ:Type}{body:Code}{g:Nat->σ1->σ2->σ3->σ4->σ5->σ6->σ7->Option ρ}{n:Nat}{a1:σ1}{a2:σ2}{a3:σ3}{a4:σ4}{a5:σ5}{a6:σ6}{a7:σ7}{y:ρ}(J:Jn (a1t body) (σ1×σ2×σ3×σ4×σ5×σ6×σ7))(h:g n a1 a2 a3 a4 a5 a6 a7=some y)
  (hr:∀m,(∀{b1 b2 b3 b4 b5 b6 b7},g m b1 b2 b3 b4 b5 b6 b7=some y->Lp env f nr body (J.j fr H (b1,b2,b3,b4,b5,b6,b7)).1 (J.j fr H (b1,b2,b3,b4,b5,b6,b7)).2 K) -> ∀a1 a2 a3 a4 a5 a6 a7,g (m+1) a1 a2 a3 a4 a5 a6 a7=some y->FE (J.j fr H (a1,a2,a3,a4,a5,a6,a7)) fun fr H=>Ev env (E env) f nr body fr H (a9T env f nr body K)) (h0:∀a1 a2 a3 a4 a5 a6 a7,g 0 a1 a2 a3 a4 a5 a6 a7=none:=by intros;rfl) (hn:normal env f nr (a1t body) fr H=some (J.j fr H (a1,a2,a3,a4,a5,a6,a7)):=by exact rfl):Ev env (E env) f nr (.loop body) fr H K :=
 a6u (g:=fun m x=>g m x.1 x.2.1 x.2.2.1 x.2.2.2.1 x.2.2.2.2.1 x.2.2.2.2.2.1 x.2.2.2.2.2.2) (s:=(a1,a2,a3,a4,a5,a6,a7)) J h (fun m ih x hx=>hr m (fun{b1 b2 b3 b4 b5 b6 b7} h=>ih (x':=(b1,b2,b3,b4,b5,b6,b7)) h) x.1 x.2.1 x.2.2.1 x.2.2.2.1 x.2.2.2.2.1 x.2.2.2.2.2.1 x.2.2.2.2.2.2 hx) (fun x=>h0 x.1 x.2.1 x.2.2.1 x.2.2.2.1 x.2.2.2.2.1 x.2.2.2.2.2.1 x.2.2.2.2.2.2) hn
theorem callR_ok {v v4:V}{H3 H4:Hp}{ns:List Nat}(h1:a6Z (a1p (K4 ns (newName o)) dep v)=some v4)(h2:Z8 (a1T (K4 ns (newName o)) H3 H)=some H4)(h3:a5d H H3 (newName o) ns.length=true)(h4:Os env orc ops rest (U9 o.dst v4 fr) H4 K):CallR env orc ops o rest fr H ns K (.ret v H3):=⟨_,_,h1,h2,h3,h4⟩
theorem c8S {v v4:V}{H3 H4:Hp}{ns:List Nat}(h1:a6Z (a1p (K4 ns (newName o)) dep v)=some v4)(h2:Z8 (a1T (K4 ns (newName o)) H3 H)=some H4)(h3:a5d H H3 (newName o) ns.length=true)(h4:K (.panic v4,fr,H4)):CallR env orc ops o rest fr H ns K (.pan v H3):=⟨_,_,h1,h2,h3,h4⟩
theorem c9w {v v2:V}(h1:a1p a5x dep v=some v2)(h2:Os env orc ops rest (U9 o.dst v2 fr) H K):c5S env orc ops o rest fr H K (.ret v []):=⟨_,rfl,h1,h2⟩
theorem lookR_ok {v v4:V}{H3:Hp}{ns:List Nat}(h1:a6Z (a1p (K4 ns (newName o)) dep v)=some v4)(h2:Z8 (a1T (K4 ns (newName o)) H3 H)=some H)(h3:a5d H H3 (newName o) ns.length=true)(h4:Os env orc ops rest (U9 o.dst v4 fr) H K):LookR env orc ops o rest fr H ns K (.ret v H3):=⟨_,h1,h2,h3,h4⟩
theorem fe_ok {j:Fr×Hp}{G:Fr->Hp->Prop}{fr:Fr}{H:Hp}(h1:fF j.1 some=some fr)(h2:fH j.2 some=some H)(h:G fr H):FE j G:=⟨fr,H,h1,h2,h⟩
theorem c9f {id:Nat}{d:Bool}{S sl:List Nat}(ls:Nat->List Nat)(hs:b44 env f id d=some (S,sl))(h:OsP env orc (ls id) sl ops (a8E ops S) fr H (sepK nr ops (ls id) sl K)):Ev env orc f nr (.region id ops d) fr H K:=c6p _ hs h
theorem kP_nil {L sl:List Nat}(h1:a9d sl fr=some L)(h2:K (.normal,fr,H)):OsP env orc L sl ops [] fr H (sepK nr ops L sl K):=osP_nil ⟨h1,h2⟩
end
attribute [irreducible] CallR c5S LookR FE
theorem osI {env:Env}{orc:Orc}{ops:Array Oper}{l:List Oper}{fr:Fr}{H:Hp}{K:Res->Prop}(h:Os env orc ops l fr H K):Os env orc ops l fr H K:=h
theorem evI {env:Env}{orc:Orc}{f nr:Nat}{c:Code}{fr:Fr}{H:Hp}{K:Res->Prop}(h:Ev env orc f nr c fr H K):Ev env orc f nr c fr H K:=h
theorem opI {env:Env}{orc:Orc}{L sl:List Nat}{ops:Array Oper}{l:List Oper}{fr:Fr}{H:Hp}{K:Res->Prop}(h:OsP env orc L sl ops l fr H K):OsP env orc L sl ops l fr H K:=h
theorem os_nilE {env:Env}{orc:Orc}{f nr:Nat}{ops:Array Oper}{b:Code}{fr:Fr}{H:Hp}{d:Bool}{K:Res->Prop}(h:Ev env orc f nr b fr H K):Os env orc ops [] fr H (regK d (thenK env orc f nr b K)):=H9 h
theorem blk {P:Prop}(x:P:=by
  repeat' first
  |(with_reducible intro(h:_=some _))
  | with_reducible refine AllC.all ?_
  | with_reducible intro _
  |((with_reducible refine osI ?_);first
    | refine oR rfl rfl ?_
    | refine os_nilE ?_
    | refine H9 ?_
    | refine k_call rfl h rfl rfl rfl rfl rfl ?_
    | refine k_call rfl (bindP_b h) rfl rfl rfl rfl rfl ?_
    | refine k_quiet rfl h rfl rfl rfl rfl rfl ?_
    | refine k_look rfl h rfl rfl rfl rfl rfl rfl ?_
    | refine k_idx rfl h rfl ?_
    | refine k_loadA rfl rfl rfl rfl rfl rfl ?_
    | refine k_load0 rfl rfl rfl ?_
    |(refine k_app rfl h rfl rfl rfl (fun _ h=>?_);refine⟨_,rfl,?_⟩)
    |(refine k_appT rfl h rfl rfl (fun _ h=>?_);refine⟨_,rfl,?_⟩)
    |(refine k_appN rfl h rfl (.inl rfl) rfl (fun _ h=>?_);refine⟨_,rfl,?_⟩)
    |(refine k_appN rfl h rfl (.inr rfl) rfl (fun _ h=>?_);refine⟨_,rfl,?_⟩)
    |(refine k_appD rfl h rfl rfl rfl (fun _ h=>?_);refine⟨_,rfl,?_⟩)
    |(refine k_appU rfl h rfl rfl (fun _ h=>?_);refine⟨_,rfl,?_⟩)
    |(refine k_appF rfl h rfl (.inl ⟨rfl,rfl⟩) rfl (fun _ h=>?_);refine⟨_,rfl,?_⟩)
    |(refine k_appF rfl h rfl (.inr ⟨rfl,a8z (Nat.succ_le_succ (Nat.zero_le _))⟩) rfl (fun _ h=>?_);refine⟨_,rfl,?_⟩)
    | refine k_idxS rfl h ?_
    | refine k_cat rfl h ?_
    | refine k_subS rfl h ?_
    | refine k_subL rfl h rfl ?_
    | refine c8m rfl ?_
    | refine o7 rfl rfl rfl ?_
    | refine c4G rfl rfl rfl ?_
    | refine c8k (m:=[]) (ek:=V.int .i64) (eb:=V.str) (b1J _) rfl rfl rfl rfl rfl rfl rfl rfl rfl rfl rfl rfl ?_
    | refine c8k (ek:=V.int .i64) (eb:=V.str) (b1J _) rfl rfl rfl rfl rfl rfl rfl rfl rfl rfl rfl rfl ?_
    | refine c6P rfl rfl rfl ?_
    | refine os_pickT rfl rfl rfl (by assumption) rfl ?_
    | refine os_pickF rfl rfl rfl (by assumption) rfl ?_
    | refine k_guard h rfl rfl rfl (fun e h=>?_) (fun e h=>?_)
    |(refine k_gd h (fun e h=>?_);refine o7 rfl rfl (a1o e rfl) ?_)
    | refine os_panic rfl rfl rfl ?_
    | refine c8l (ek:=V.int .i64) (eb:=V.bool) (d:=false) (b1J _) rfl rfl rfl rfl rfl rfl rfl rfl rfl rfl rfl ?_
    | refine os_mapU (ek:=V.int .i64) (eb:=V.bool) (b1J _) rfl rfl rfl rfl rfl rfl rfl rfl rfl rfl rfl rfl ?_
    | refine c8l (ek:=V.int .i64) (eb:=V.str) (d:=[]) (b1J _) rfl rfl rfl rfl rfl rfl rfl rfl rfl rfl rfl ?_
    | refine os_toStr rfl rfl rfl rfl rfl rfl rfl rfl rfl ?_
    | refine os_ofStr rfl rfl rfl rfl rfl rfl rfl rfl rfl ?_)
  |((with_reducible refine evI ?_);first
    | refine eSG ?_
    | refine k_if rfl h (fun e h=>?_) (fun e h=>?_)
    | refine L9 ?_
    | refine a4k ?_
    | refine O5 ?_
    | refine Y9 ?_
    | refine p9 ?_
    | refine F3 ?_
    | refine a4I rfl rfl ?_
    | refine a3L rfl rfl ?_
    | refine a4I rfl (by assumption) ?_
    | refine a3L rfl (by assumption) ?_
    | refine c9f ls rfl ?_
    | refine b0g jn1 h ?_ ?_|refine a7a kr jn1 h ?_ ?_|refine a7b kr jn1 h ?_ ?_
     | refine b0g jn2 h ?_ ?_|refine a7a kr jn2 h ?_ ?_|refine a7b kr jn2 h ?_ ?_
     | refine b0g jn3 h ?_ ?_|refine a7a kr jn3 h ?_ ?_|refine a7b kr jn3 h ?_ ?_
     | refine b0g jn4 h ?_ ?_|refine a7a kr jn4 h ?_ ?_|refine a7b kr jn4 h ?_ ?_
     | refine b0g jn5 h ?_ ?_|refine a7a kr jn5 h ?_ ?_|refine a7b kr jn5 h ?_ ?_
     | refine b0g jn6 h ?_ ?_|refine a7a kr jn6 h ?_ ?_|refine a7b kr jn6 h ?_ ?_
     | refine b0g jn7 h ?_ ?_|refine a7a kr jn7 h ?_ ?_|refine a7b kr jn7 h ?_ ?_
     | refine b0g jn8 h ?_ ?_|refine a7a kr jn8 h ?_ ?_|refine a7b kr jn8 h ?_ ?_
     | refine b0g jn9 h ?_ ?_|refine a7a kr jn9 h ?_ ?_|refine a7b kr jn9 h ?_ ?_
     | refine b0g jn10 h ?_ ?_|refine a7a kr jn10 h ?_ ?_|refine a7b kr jn10 h ?_ ?_
     | refine b0g jn11 h ?_ ?_|refine a7a kr jn11 h ?_ ?_|refine a7b kr jn11 h ?_ ?_
     | refine b0g jn12 h ?_ ?_|refine a7a kr jn12 h ?_ ?_|refine a7b kr jn12 h ?_ ?_
     | refine b0g jn13 h ?_ ?_|refine a7a kr jn13 h ?_ ?_|refine a7b kr jn13 h ?_ ?_
     | refine b0g jn14 h ?_ ?_|refine a7a kr jn14 h ?_ ?_|refine a7b kr jn14 h ?_ ?_
    | refine a6u jl1 h (fun m ih=>?_)
     | refine b4m jl1 h (fun m ih=>?_)
     | refine b4n jl1 h (fun m ih=>?_)
     | refine b4o jl1 h (fun m ih=>?_)
     | refine b4p jl1 h (fun m ih=>?_)
     | refine b4q jl1 h (fun m ih=>?_)
     | refine b4r jl1 h (fun m ih=>?_)
     | refine a6u jl2 h (fun m ih=>?_)
     | refine b4m jl2 h (fun m ih=>?_)
     | refine b4n jl2 h (fun m ih=>?_)
     | refine b4o jl2 h (fun m ih=>?_)
     | refine b4p jl2 h (fun m ih=>?_)
     | refine b4q jl2 h (fun m ih=>?_)
     | refine b4r jl2 h (fun m ih=>?_)
     | refine a6u jl3 h (fun m ih=>?_)
     | refine b4m jl3 h (fun m ih=>?_)
     | refine b4n jl3 h (fun m ih=>?_)
     | refine b4o jl3 h (fun m ih=>?_)
     | refine b4p jl3 h (fun m ih=>?_)
     | refine b4q jl3 h (fun m ih=>?_)
     | refine b4r jl3 h (fun m ih=>?_)
     | refine a6u jl4 h (fun m ih=>?_)
     | refine b4m jl4 h (fun m ih=>?_)
     | refine b4n jl4 h (fun m ih=>?_)
     | refine b4o jl4 h (fun m ih=>?_)
     | refine b4p jl4 h (fun m ih=>?_)
     | refine b4q jl4 h (fun m ih=>?_)
     | refine b4r jl4 h (fun m ih=>?_)
     | refine a6u jl5 h (fun m ih=>?_)
     | refine b4m jl5 h (fun m ih=>?_)
     | refine b4n jl5 h (fun m ih=>?_)
     | refine b4o jl5 h (fun m ih=>?_)
     | refine b4p jl5 h (fun m ih=>?_)
     | refine b4q jl5 h (fun m ih=>?_)
     | refine b4r jl5 h (fun m ih=>?_)
     | refine a6u jl6 h (fun m ih=>?_)
     | refine b4m jl6 h (fun m ih=>?_)
     | refine b4n jl6 h (fun m ih=>?_)
     | refine b4o jl6 h (fun m ih=>?_)
     | refine b4p jl6 h (fun m ih=>?_)
     | refine b4q jl6 h (fun m ih=>?_)
     | refine b4r jl6 h (fun m ih=>?_)
    )
  |((with_reducible refine opI ?_);first
    | refine kP_nil rfl ?_
    | refine c4E rfl ?_
    | refine osP_cons rfl ?_)
  | refine callR_ok rfl rfl rfl ?_
  | refine c8S rfl rfl rfl ?_
  | refine c9w rfl ?_
  | refine lookR_ok rfl rfl rfl ?_
  | refine fe_ok rfl rfl ?_
  |((fail_if_success (with_reducible refine evI ?_));refine evI ?_)
  |((fail_if_success (with_reducible refine opI ?_));refine opI ?_)
  |((fail_if_success (with_reducible refine osI ?_));refine osI ?_)
  |(cases h;first
    | exact⟨_,_,_,rfl,rfl,rfl⟩
    | exact⟨_,_,rfl,rfl⟩
    | exact rfl
    | exact⟨_,rfl,rfl⟩
    | exact⟨_,rfl,_,_,_,rfl,rfl,rfl⟩
    | exact⟨_,rfl,_,_,rfl,rfl⟩
    | exact⟨rfl,rfl,_,_,rfl,_,_,rfl,rfl⟩
    | exact⟨rfl,rfl,_,_,rfl,_,rfl,_,_,rfl,rfl⟩)
  | exact⟨_,_,rfl,ih h⟩
  | exact trivial
  | refine And.intro ?_ ?_):P:=x
end Go.Vm
namespace Go.Proofs.YtmippldlhnajkaaGreatDoor
open Go Go.Vm
structure Typ where
 kind:Int
 name:Str
 n:Int
 args:List Typ
mutual
def Typ.sub:Typ->List V
 |⟨_,_,_,a3⟩=>w9 a3
def w9:List Typ->List V
 | []=>[]
 | x::r=>.int .i64 x.kind :: .str x.name :: .int .i64 x.n :: .slice .sealed (List.length x.args) (x.sub)::w9 r
end
def c0E (x:Typ):List V:=[.int .i64 x.kind,.str x.name,.int .i64 x.n,.slice .sealed (List.length x.args) (w9 x.args)]
theorem b8D:a3o 4 c0E w9:=⟨fun _=>rfl,rfl,fun x r=>by cases x;rfl⟩
instance:b7H w9 4 c0E:=⟨b8D⟩
instance:b6t Typ w9 4 c0E:=⟨b8D⟩
structure Nod where
 op:Int
 s:Str
 n:Int
 t:Typ
 ts:List Typ
 l:List Nod
 at_:Int
mutual
def Nod.sub:Nod->List V
 |⟨_,_,_,_,_,a5,_⟩=>C8 a5
def C8:List Nod->List V
 | []=>[]
 | x::r=>.int .i64 x.op :: .str x.s :: .int .i64 x.n :: .int .i64 x.t.kind :: .str x.t.name :: .int .i64 x.t.n :: .slice .sealed (List.length x.t.args) (w9 x.t.args) :: .slice .sealed (List.length x.ts) (w9 x.ts) :: .slice .sealed (List.length x.l) (x.sub) :: .int .i64 x.at_::C8 r
end
def a6f (x:Nod):List V:=[.int .i64 x.op,.str x.s,.int .i64 x.n,.int .i64 x.t.kind,.str x.t.name,.int .i64 x.t.n,.slice .sealed (List.length x.t.args) (w9 x.t.args),.slice .sealed (List.length x.ts) (w9 x.ts),.slice .sealed (List.length x.l) (C8 x.l),.int .i64 x.at_]
theorem b8C:a3o 10 a6f C8:=⟨fun _=>rfl,rfl,fun x r=>by cases x;rfl⟩
instance:b7H C8 10 a6f:=⟨b8C⟩
instance:b6t Nod C8 10 a6f:=⟨b8C⟩
structure Flt where
 code:Int
 at_:Int
def c3K (x:Flt):List V:=[.int .i64 x.code,.int .i64 x.at_]
def b0c:List Flt->List V | []=>[]|x::r=>.int .i64 x.code :: .int .i64 x.at_::b0c r
theorem c6j:a3o 2 c3K b0c:=⟨fun _=>rfl,rfl,fun _ _=>rfl⟩
instance:b7H b0c 2 c3K:=⟨c6j⟩
instance:b6t Flt b0c 2 c3K:=⟨c6j⟩
structure Tok where
 kind:Int
 text:Str
 at_:Int
 len:Int
def c1Tok (x:Tok):List V:=[.int .i64 x.kind,.str x.text,.int .i64 x.at_,.int .i64 x.len]
def D8:List Tok->List V | []=>[]|x::r=>.int .i64 x.kind :: .str x.text :: .int .i64 x.at_ :: .int .i64 x.len::D8 r
theorem c6k:a3o 4 c1Tok D8:=⟨fun _=>rfl,rfl,fun _ _=>rfl⟩
instance:b7H D8 4 c1Tok:=⟨c6k⟩
instance:b6t Tok D8 4 c1Tok:=⟨c6k⟩
instance:AllC Typ (fun P=>∀a0 a1 a2 a3,P ⟨a0,a1,a2,a3⟩):=⟨fun h x=>by obtain⟨a0,a1,a2,a3⟩:=x;exact h a0 a1 a2 a3⟩
instance:AllC Nod (fun P=>∀a0 a1 a2 a3 a4 a5 a6 a7 a8 a9,P ⟨a0,a1,a2,⟨a3,a4,a5,a6⟩,a7,a8,a9⟩):=⟨fun h x=>by obtain⟨a0,a1,a2,⟨a3,a4,a5,a6⟩,a7,a8,a9⟩:=x;exact h a0 a1 a2 a3 a4 a5 a6 a7 a8 a9⟩
end Go.Proofs.YtmippldlhnajkaaGreatDoor
namespace Go.Vm
def eqV1:V->V->Bool | .bool a,.bool b=>decide (a=b) | .int j a,.int k b=>decide (j=k)&&decide (a=b) | .str a,.str b=>decide (a=b) | .nilptr,.nilptr=>true | .slice .nil 0 [],.slice .nil 0 []=>true | .nilFunc,.nilFunc=>true | .nilIface,.nilIface=>true | .opq,.opq=>true|_,_=>false
theorem eqV1_ok {a b:V}(h:eqV1 a b=true):a=b:=by
 unfold eqV1 at h;split at h<;>first|rfl|cases h |(simp at h;simp[h])
def eqVs1:List V->List V->Bool | [],[]=>true|a::r,b::s=>eqV1 a b&&eqVs1 r s|_,_=>false
theorem c3V:∀{a b:List V},eqVs1 a b=true->a=b
 | [],[],_=>rfl
 | a::r,b::s,h=>by
  simp only[eqVs1,Bool.and_eq_true]at h;rw[eqV1_ok h.1,c3V h.2]
 | [],_::_,h=>by cases h
 | _::_,[],h=>by cases h
def isAggV:Value->Bool | .agg _=>true|_=>false
def infoB (P:Program)(t:Nat)(y:Ty):Bool :=
 match P.info? t with
 | none=>false
 | some i=>match i.zero with
  | none=>false
  | some z=>decide (i.size=y.size)&&decide (i.bytes=y.bytes)&&(match a1a b1Z z.cells.toList with|some l=>eqVs1 l y.zero|none=>false)&&decide (z.cells.size=y.size)&&decide (isAggV z=a09 y.sh)
def shB (P:Program)(t:Nat):Sh->Bool
 | .bool=>match P.underlying t with|some .bool=>true|_=>false
 | .string=>match P.underlying t with|some .string=>true|_=>false
 | .int k=>match P.underlying t with|some (.int j)=>decide (j=k)|_=>false
 | .ptr e=>match P.underlying t with|some (.pointer j)=>decide (j=e)|_=>false
 | .slice e=>match P.underlying t with|some (.slice j)=>decide (j=e)|_=>false
 | .array n e=>match P.underlying t with|some (.array m j)=>decide (m=n)&&decide (j=e)|_=>false
 | .struct fs=>match P.underlying t with
  | some (.struct l)=>!P.stoodInHeld t&&decide ((l.toList.map fun f=>(f.type,f.offset))=fs)&&l.toList.all (fun f=>decide (f.name ≠ "_"))&&l.toList.all (fun f=>(P.info? f.type).isSome)
  | _=>false
 | .iface=>match P.underlying t with|some (.interface _)=>true|_=>false
 | .func=>match P.underlying t with|some (.func ..)=>true|_=>false
 | .other=>(P.underlying t).isSome
 | .map k e=>match P.underlying t with|some (.map i j)=>decide (i=k)&&decide (j=e)|_=>false
 | .blk fs=>match P.underlying t with
  | some (.struct l)=>decide ((l.toList.map fun f=>(f.type,f.offset))=fs)&&l.toList.all (fun f=>(P.info? f.type).isSome)
  | _=>false
def c5h (P:Program)(t:Nat)(s:Sh):Bool :=
 match P.underlying t with
 | none=>false
 | some d=>(a09 s ||(match d with | .struct _ | .array ..=>false|_=>true))&&(match s,d with | .iface,_=>true|_,.interface _=>false|_,_=>true) &&
  (match s with | .iface | .array .. | .blk _=>true|_=>!P.eqGuardType P.depth t)
def tyB (P:Program)(t:Nat)(y:Ty):Bool:=infoB P t y&&shB P t y.sh&&c5h P t y.sh
theorem c3O {z:Value}(h:isAggV z=false):z.cells = #[z]:=by cases z<;>first|rfl|cases h
theorem tyB_ok {P:Program}{t:Nat}{y:Ty}(h:tyB P t y=true):TyOk P t y:=by
 simp only[tyB,Bool.and_eq_true]at h;obtain⟨⟨h1,h2⟩,h3⟩:=h;refine⟨?_,?_,?_,?_,?_,?_⟩
 ·unfold infoB at h1;split at h1
  ·cases h1
  ·rename_i i hi;split at h1
   ·cases h1
   ·rename_i z hz;simp only[Bool.and_eq_true,decide_eq_true_eq]at h1;obtain⟨⟨⟨⟨g1,g2⟩,g3⟩,g4⟩,g5⟩:=h1;split at g3
    ·rename_i l hl;have:=c3V g3;subst this;refine⟨i,z,hi,g1,g2,hz,hl,g4,fun ha=>?_,fun ha=>c3O (g5.trans ha)⟩;rw[ha]at g5;cases z<;>first|exact⟨_,rfl⟩|cases g5
    ·cases g3
 ·unfold shB at h2;split at h2<;>rename_i hs<;>simp only[hs]
  ·split at h2<;>first|assumption|cases h2
  ·split at h2<;>first|assumption|cases h2
  ·split at h2
   ·rename_i hu;simp only[decide_eq_true_eq]at h2;subst h2;exact hu
   ·cases h2
  ·split at h2
   ·rename_i hu;simp only[decide_eq_true_eq]at h2;subst h2;exact hu
   ·cases h2
  ·split at h2
   ·rename_i hu;simp only[decide_eq_true_eq]at h2;subst h2;exact hu
   ·cases h2
  ·split at h2
   ·rename_i hu;simp only[Bool.and_eq_true,decide_eq_true_eq]at h2;obtain⟨rfl,rfl⟩:=h2;exact hu
   ·cases h2
  ·split at h2
   ·rename_i l hu;simp only[Bool.and_eq_true,Bool.not_eq_true',decide_eq_true_eq]at h2;obtain⟨⟨⟨g1,g2⟩,g3⟩,g4⟩:=h2;exact⟨g1,l,hu,g2,by simpa using g3,g4⟩
   ·cases h2
  ·split at h2
   ·rename_i ms hu;exact⟨ms,hu⟩
   ·cases h2
  ·split at h2
   ·rename_i a b c hu;exact⟨a,b,c,hu⟩
   ·cases h2
  ·split at h2
   ·rename_i hu;simp only[Bool.and_eq_true,decide_eq_true_eq]at h2;obtain⟨rfl,rfl⟩:=h2;exact hu
   ·cases h2
  ·split at h2
   ·rename_i l hu;simp only[Bool.and_eq_true,decide_eq_true_eq]at h2;exact⟨l,hu,h2.1,h2.2⟩
   ·cases h2
 ·intro ha d hd;unfold c5h at h3;rw[hd]at h3;simp only[ha,Bool.false_or,Bool.and_eq_true]at h3;obtain⟨⟨g,_⟩,_⟩:=h3;constructor
  ·rintro fs rfl;cases g
  ·rintro n e rfl;cases g
 ·unfold c5h at h3;split at h3
  ·cases h3
  ·rename_i d hd;exact⟨d,hd⟩
 ·intro hs ms hu;unfold c5h at h3;rw[hu]at h3;simp only[Bool.and_eq_true]at h3;obtain⟨⟨_,g⟩,_⟩:=h3;cases hy:y.sh<;>rw[hy]at g hs<;>first|exact hs|cases g
 ·intro hs;unfold c5h at h3;split at h3
  ·cases h3
  ·simp only[Bool.and_eq_true]at h3;obtain⟨_,g⟩:=h3;cases hy:y.sh<;>rw[hy]at g hs<;>first|exact hs.elim|simpa using g
def tysB (P:Program)(T:List (Nat×Ty)):Bool:=T.all fun p=>tyB P p.1 p.2
theorem a8j {P:Program}:∀{T:List (Nat×Ty)},tysB P T=true->TOk P T
 | [],_,t,y,h=>by cases h
 |(s,z)::r,hb,t,y,h=>by
  simp only[tysB,List.all_cons,Bool.and_eq_true]at hb;simp only[K8]at h;split at h
  ·rename_i hs;cases h;have:=Nat.eq_of_beq_eq_true hs;subst this;exact tyB_ok hb.1
  ·exact a8j hb.2 t y h
def b0A (env:Env)(l:List Nat):Bool:=l.all fun g=>match env.P.funcs[g]? with
 | none=>true
 | some fn=>!(fn.name == "runtime.NumGoroutine")&&match fn.body with
  | none=>true
  | some c=>a7C env g fn.ntmps c
theorem c4a {k:Nat}:∀{l:List Nat},has k l=true->k∈l
 | [],h=>by cases h
 | a::r,h=>by
  simp only[has]at h;split at h
  ·rename_i hb;rw[Nat.eq_of_beq_eq_true hb];exact List.mem_cons_self ..
  ·exact List.mem_cons_of_mem _ (c4a h)
theorem a6F {env:Env} {l:List Nat} (hok:∀g,env.ok g=true->has g l=true) (h:b0A env l=true):∀g fn c,env.ok g=true->env.P.funcs[g]? = some fn->fn.body=some c->a7C env g fn.ntmps c=true/\(fn.name == "runtime.NumGoroutine")=false:=by
 intro g fn c h1 h2 h3;rw[b0A,List.all_eq_true]at h;have:=h g (c4a (hok g h1));rw[h2]at this;simp only[h3,Bool.and_eq_true,Bool.not_eq_true']at this;exact⟨this.2,this.1⟩
end Go.Vm
namespace Go.Proofs.YtmippldlhnajkaaGreatDoor.Sc
open Go Go.Vm
def T:List (Nat×Ty):=[(3,⟨.int .i64,1,8,[.i 0]⟩),(4,⟨.bool,1,1,[.bool false]⟩),(5,⟨.int .u8,1,1,[.int .u8 0]⟩),(9,⟨.string,1,16,[.str []]⟩),(34,⟨.int .i64,1,8,[.i 0]⟩),(36,⟨.struct [(34,0),(3,1)],2,16,[.i 0,.i 0]⟩),(54,⟨.slice 5,1,24,[.slice .nil 0 []]⟩),(58,⟨.slice 9,1,24,[.slice .nil 0 []]⟩),(73,⟨.slice 88,1,24,[.slice .nil 0 []]⟩),(88,⟨.struct [(3,0),(9,1),(3,2),(3,3)],4,40,[.i 0,.str [],.i 0,.i 0]⟩),(102,⟨.slice 3,1,24,[.slice .nil 0 []]⟩),(106,⟨.struct [(9,0),(3,1),(4,2)],3,32,[.str [],.i 0,.bool false]⟩),(137,⟨.func,1,8,[.nilFunc]⟩),(151,⟨.ptr 155,1,8,[.nilptr]⟩),(153,⟨.struct [(9,0),(3,1)],2,24,[.str [],.i 0]⟩),(155,⟨.struct [(153,0),(73,2),(36,3)],5,64,[.str [],.i 0,.slice .nil 0 [],.i 0,.i 0]⟩),(189,⟨.ptr 153,1,8,[.nilptr]⟩),(192,⟨.array 32 9,32,512,[.str [],.str [],.str [],.str [],.str [],.str [],.str [],.str [],.str [],.str [],.str [],.str [],.str [],.str [],.str [],.str [],.str [],.str [],.str [],.str [],.str [],.str [],.str [],.str [],.str [],.str [],.str [],.str [],.str [],.str [],.str [],.str []]⟩),(194,⟨.array 27 9,27,432,[.str [],.str [],.str [],.str [],.str [],.str [],.str [],.str [],.str [],.str [],.str [],.str [],.str [],.str [],.str [],.str [],.str [],.str [],.str [],.str [],.str [],.str [],.str [],.str [],.str [],.str [],.str []]⟩)]
def keep:Nat->Nat->List Nat|38,6=>[0,3,5,6,4,7]|158,2=>[0,1,2,7]|71,1=>[0,1]|71,6=>[0,1]|73,2=>[0,1,2,3,8,9,10]|180,0=>[0]|184,5=>[0,1,5,6,7,8]|189,3=>[0,3,4]|133,1=>[0,1]|135,1=>[0,1]|137,2=>[0,1,5]|208,2=>[0,1,5]|212,2=>[0,1,5,6]|_,_=>[]
def okL:List Nat:=[103,38,138,173,158,71,72,73,74,211,213,180,181,182,183,184,185,186,187,188,189,190,129,130,131,132,133,134,135,136,137,206,207,208,209,210,212]
def a8C:List Nat:=[103,138,173,71,72,73,74,211,213,185,187,129,130,131,132,133,134,135,136,137,206,209,210]
noncomputable def env:Env:={P:=Tryz.prog,T:=T,keep:=keep,byref:=fun f s=>match f,s with|38,5=>some 1|38,6=>some 1|_,_=>none,meth:=fun _ _=>none,tags:=fun _=>false,argTags:=fun _=>false,quiet:=fun g=>has g a8C,loose:=fun _=>false,intr:=fun _=>none,ok:=fun g=>has g okL}
theorem tys:tysB Tryz.prog T=true:=by kernel_rfl
theorem codes:b0A env okL=true:=by kernel_rfl
theorem mixed:Tryz.prog.follows .mixedOrders=true:=by kernel_rfl
theorem b5j:a7L env:=by
 intro _ _ _ h;cases h
theorem b4X:a5X env:=⟨b5j,a8j tys,mixed,a6F (fun _ h=>h) codes,(fun _ _ h=>by cases h),(fun _ _ _ h=>by cases h)⟩
end Go.Proofs.YtmippldlhnajkaaGreatDoor.Sc
namespace Go.Proofs.YtmippldlhnajkaaGreatDoor.Sc
open Go Go.Vm
def b8z (n:Int):Bool:=leB 48 n&&leB n 57
def M0 (b:UInt8):Bool:=decide (48<=b.toNat/\b.toNat<=57)
theorem c81 (b:UInt8):b8z (b.toNat:Nat)=M0 b:=by
 simp only[b8z,M0,leB,eqB];rw[Bool.eq_iff_iff];simp;omega
theorem c48I (n:Int):E env (.call 130 [.int .u8 n]) []=some (.ret (.bool (b8z n)) []):=by
 refine a1r rfl Tryz.func130 rfl rfl ?_;refine eSG (oB 1 rfl (eSG (oA 3 rfl ?_)));refine N9 rfl rfl rfl (fun h1=>?_) (fun h1=>?_)
 ·refine oB 4 rfl ?_;exact O5 ⟨_,rfl,by show some (V.bool _,_)=some (V.bool _,_);simp[b8z, *]⟩
 ·refine oB 4 rfl ?_;exact O5 ⟨_,rfl,by show some (V.bool _,_)=some (V.bool _,_);simp[b8z, *]⟩
theorem c48 (b:UInt8):E env (.call 130 [.int .u8 (b.toNat:Nat)]) []=some (.ret (.bool (M0 b)) []):=by rw[<-c81];exact c48I _
def a7Z (n:Int):Bool:=(leB 97 n&&leB n 122) ||(leB 65 n&&leB n 90)||eqB n 95
def a0x (b:UInt8):Bool:=decide ((97<=b.toNat/\b.toNat<=122)∨(65<=b.toNat/\b.toNat<=90)∨b.toNat=95)
theorem c6z (b:UInt8):a7Z (b.toNat:Nat)=a0x b:=by
 simp only[a7Z,a0x,leB,eqB];rw[Bool.eq_iff_iff];simp;omega
theorem c49I (n:Int):E env (.call 131 [.int .u8 n]) []=some (.ret (.bool (a7Z n)) []):=by
 refine a1r rfl Tryz.func131 rfl rfl ?_;refine eSG (oB 1 rfl (eSG (oA 3 rfl ?_)));refine N9 rfl rfl rfl (fun h1=>?_) (fun h1=>?_)
 ·refine oA 4 rfl ?_;refine N9 rfl rfl rfl (fun h2=>?_) (fun h2=>?_)
  ·refine oB 12 rfl ?_;exact O5 ⟨_,rfl,by show some (V.bool _,_)=some (V.bool _,_);simp[a7Z, *]⟩
  ·refine oA 3 rfl ?_;refine N9 rfl rfl rfl (fun h3=>?_) (fun h3=>?_)
   ·refine oA 5 rfl ?_;refine N9 rfl rfl rfl (fun h4=>?_) (fun h4=>?_)
    ·refine oB 4 rfl ?_;exact O5 ⟨_,rfl,by show some (V.bool _,_)=some (V.bool _,_);simp[a7Z, *]⟩
    ·refine oB 4 rfl ?_;exact O5 ⟨_,rfl,by show some (V.bool _,_)=some (V.bool _,_);simp[a7Z, *]⟩
   ·refine oB 9 rfl ?_;exact O5 ⟨_,rfl,by show some (V.bool _,_)=some (V.bool _,_);simp[a7Z, *]⟩
 ·refine oA 7 rfl ?_;refine N9 rfl rfl rfl (fun h5=>?_) (fun h5=>?_)
  ·refine oA 5 rfl ?_;refine N9 rfl rfl rfl (fun h6=>?_) (fun h6=>?_)
   ·refine oB 4 rfl ?_;exact O5 ⟨_,rfl,by show some (V.bool _,_)=some (V.bool _,_);simp[a7Z, *]⟩
   ·refine oB 4 rfl ?_;exact O5 ⟨_,rfl,by show some (V.bool _,_)=some (V.bool _,_);simp[a7Z, *]⟩
  ·refine oB 9 rfl ?_;exact O5 ⟨_,rfl,by show some (V.bool _,_)=some (V.bool _,_);simp[a7Z, *]⟩
theorem c49 (b:UInt8):E env (.call 131 [.int .u8 (b.toNat:Nat)]) []=some (.ret (.bool (a0x b)) []):=by rw[<-c6z];exact c49I _
def b49 (n:Int):Bool:=eqB n 9||eqB n 10||eqB n 13||eqB n 32
def b0z (b:UInt8):Bool:=decide (b.toNat=9∨b.toNat=10∨b.toNat=13∨b.toNat=32)
theorem c8Q (b:UInt8):b49 (b.toNat:Nat)=b0z b:=by
 simp only[b49,b0z,leB,eqB];rw[Bool.eq_iff_iff];simp;omega
theorem c47I (n:Int):E env (.call 129 [.int .u8 n]) []=some (.ret (.bool (b49 n)) []):=by
 refine a1r rfl Tryz.func129 rfl rfl ?_;refine eSG (oB 1 rfl (eSG (oA 3 rfl ?_)));refine N9 rfl rfl rfl (fun h1=>?_) (fun h1=>?_)
 ·refine oB 12 rfl ?_;exact O5 ⟨_,rfl,by show some (V.bool _,_)=some (V.bool _,_);simp[b49, *]⟩
 ·refine oA 4 rfl ?_;refine N9 rfl rfl rfl (fun h2=>?_) (fun h2=>?_)
  ·refine oB 8 rfl ?_;exact O5 ⟨_,rfl,by show some (V.bool _,_)=some (V.bool _,_);simp[b49, *]⟩
  ·refine oA 4 rfl ?_;refine N9 rfl rfl rfl (fun h3=>?_) (fun h3=>?_)
   ·refine oB 4 rfl ?_;exact O5 ⟨_,rfl,by show some (V.bool _,_)=some (V.bool _,_);simp[b49, *]⟩
   ·refine oB 4 rfl ?_;exact O5 ⟨_,rfl,by show some (V.bool _,_)=some (V.bool _,_);simp[b49, *]⟩
theorem c47 (b:UInt8):E env (.call 129 [.int .u8 (b.toNat:Nat)]) []=some (.ret (.bool (b0z b)) []):=by rw[<-c8Q];exact c47I _
def capI (n:Int):Bool:=leB 65 n&&leB n 90
theorem c54I (n:Int):E env (.call 136 [.int .u8 n]) []=some (.ret (.bool (capI n)) []):=by
 refine a1r rfl Tryz.func136 rfl rfl ?_;refine eSG (oB 1 rfl (eSG (oA 3 rfl ?_)));refine N9 rfl rfl rfl (fun h1=>?_) (fun h1=>?_)
 ·refine oB 4 rfl ?_;exact O5 ⟨_,rfl,by show some (V.bool _,_)=some (V.bool _,_);simp[capI, *]⟩
 ·refine oB 4 rfl ?_;exact O5 ⟨_,rfl,by show some (V.bool _,_)=some (V.bool _,_);simp[capI, *]⟩
def capB (b:UInt8):Bool:=decide (65<=b.toNat/\b.toNat<=90)
theorem c1Y (b:UInt8):capI (b.toNat:Nat)=capB b:=by
 simp only[capI,capB,leB,eqB];rw[Bool.eq_iff_iff];simp;omega
theorem c54 (b:UInt8):E env (.call 136 [.int .u8 (b.toNat:Nat)]) []=some (.ret (.bool (capB b)) []):=by rw[<-c1Y];exact c54I _
def nlB (b:UInt8):Bool:=decide (b.toNat≠10)
def a0X (b:UInt8):Bool:=a0x b||M0 b
end Go.Proofs.YtmippldlhnajkaaGreatDoor.Sc
namespace Go.Proofs.YtmippldlhnajkaaGreatDoor.Sc
open Go Go.Vm
section
variable (s:List UInt8) (i n:Nat) (tc:List V) (c a:Int) (e:Nat)
end
end Go.Proofs.YtmippldlhnajkaaGreatDoor.Sc
namespace Go.Proofs.YtmippldlhnajkaaGreatDoor.Sc
open Go Go.Vm
def Z7 (p:UInt8->Bool)(s:List UInt8)(i:Nat):Nat:=i+((s.drop i).takeWhile p).length
theorem a7N {s:List UInt8}{i:Nat}(h:i<s.length):s.drop i=s.getD i 0::s.drop (i+1):=by
 rw[List.drop_eq_getElem_cons h];simp[h]
theorem b9U {p:UInt8->Bool}{s:List UInt8}{i:Nat}(h:s.length<=i):Z7 p s i=i:=by simp[Z7,List.drop_eq_nil_of_le h]
theorem c26 {p:UInt8->Bool}{s:List UInt8}{i:Nat}(h:i<s.length)(hp:p (s.getD i 0)=false):Z7 p s i=i:=by
 simp only[Z7,a7N h,List.takeWhile_cons,hp];rfl
theorem b33 {p:UInt8->Bool}{s:List UInt8}{i:Nat}(h:i<s.length)(hp:p (s.getD i 0)=true):Z7 p s i=Z7 p s (i+1):=by
 simp only[Z7,a7N h,List.takeWhile_cons,hp,if_true,List.length_cons];omega
theorem b0w {p:UInt8->Bool}{s:List UInt8}{i:Nat}(h:i<=s.length):Z7 p s i<=s.length:=by
 have h1:=List.takeWhile_sublist p (l:=s.drop i);have:=h1.length_le;simp only[Z7,List.length_drop]at this ⊢;omega
theorem runE_ge {p:UInt8->Bool}{s:List UInt8}{i:Nat}:i<=Z7 p s i:=by simp only[Z7];omega
section
variable (s:List UInt8) (i n:Nat) (tc:List V) (c a:Int) (e:Nat)
end
end Go.Proofs.YtmippldlhnajkaaGreatDoor.Sc
namespace Go.Proofs.YtmippldlhnajkaaGreatDoor.Sc
open Go Go.Vm
def a8O:Bool->List UInt8->Nat
 | _,[]=>0
 | true,b::r=>a8O (nlB b) r+1
 | false,b::r=>match b0z b with
  | true=>a8O false r+1
  | false=>match decide (b.toNat=47)&&decide ((r.headD 0).toNat=47)with
   | true=>a8O true r+1
   | false=>0
def a0C (s:List UInt8)(i:Nat):Nat:=i+a8O false (s.drop i)
theorem b8S (s:List UInt8)(i:Nat):(s.drop i).headD 0=s.getD i 0:=by
 rcases Nat.lt_or_ge i s.length with h|h
 ·rw[a7N h];rfl
 ·rw[List.drop_eq_nil_of_le h,List.getD_eq_getElem?_getD,List.getElem?_eq_none h];rfl
theorem c9K {s:List UInt8}{i:Nat}(h:s.length<=i):a0C s i=i:=by simp[a0C,List.drop_eq_nil_of_le h,a8O]
theorem c5n {s:List UInt8}{i:Nat}(h:i<s.length)(hb:b0z (s.getD i 0)=true):a0C s i=a0C s (i+1):=by
 simp only[a0C,a7N h,a8O,hb];omega
theorem skipE_no {s:List UInt8}{i:Nat}(h:i<s.length)(hb:b0z (s.getD i 0)=false)(hc:(s.getD i 0).toNat≠47∨(s.getD (i+1) 0).toNat≠47):a0C s i=i:=by
 have:(decide ((s.getD i 0).toNat=47)&&decide (((s.drop (i+1)).headD 0).toNat=47))=false:=by
  rw[b8S,Bool.and_eq_false_iff,decide_eq_false_iff_not,decide_eq_false_iff_not];exact hc
 simp only[a0C,a7N h,a8O,hb,this];rfl
theorem b91:∀l:List UInt8,a8O true l =(l.takeWhile nlB).length+a8O false (l.drop (l.takeWhile nlB).length)
 | []=>rfl
 | b::r=>by
  cases hb:nlB b with
  | true =>
   simp only[a8O,hb,List.takeWhile_cons,if_true,List.length_cons,List.drop_succ_cons];rw[b91 r];omega
  | false =>
   have h2:b0z b=true:=by simp only[nlB,b0z,decide_eq_false_iff_not,decide_eq_true_eq]at hb ⊢;omega
   simp only[a8O,hb,h2,List.takeWhile_cons,Bool.false_eq_true,if_false,List.length_nil,List.drop_zero];omega
theorem c9J {s:List UInt8}{i:Nat}(h:i<s.length)(h1:(s.getD i 0).toNat=47)(h2:(s.getD (i+1) 0).toNat=47):a0C s i=a0C s (Z7 nlB s i):=by
 have hb:b0z (s.getD i 0)=false:=by simp only[b0z,decide_eq_false_iff_not];omega
 have hn:nlB (s.getD i 0)=true:=by simp only[nlB,decide_eq_true_eq];omega
 have hc:(decide ((s.getD i 0).toNat=47)&&decide (((s.drop (i+1)).headD 0).toNat=47))=true:=by rw[b8S,h1,h2];rfl
 rw[b33 h hn];simp only[a0C,a7N h,a8O,hb,hc,b91,Z7,List.drop_drop];omega
theorem b0v {p:UInt8->Bool}{s:List UInt8}{i:Nat}(h:i<s.length)(hp:p (s.getD i 0)=true):i<Z7 p s i:=by
 rw[b33 h hp];have:=runE_ge (p:=p) (s:=s) (i:=i+1);omega
section
variable (s:List UInt8) (i n:Nat) (tc:List V) (c a:Int) (e:Nat)
end
end Go.Proofs.YtmippldlhnajkaaGreatDoor.Sc
namespace Go.Proofs.YtmippldlhnajkaaGreatDoor.Sc
open Go Go.Vm
def a4F:List UInt8:=[57,50,50,51,51,55,50,48,51,54,56,53,52,55,55,53,56,48,55]
def a3x (w:List UInt8)(nx:UInt8):Bool:=(ltB 1 w.length&&eqB (w.getD 0 0).toNat 48)||ltB 19 w.length ||(eqB w.length 19 && !(ltS w a4F||eqS w a4F))||a0x nx
def tokC (k:Int)(w:List UInt8)(i l:Nat):List V:=[.i k,.str w,.i i,.i l]
section
variable (s:List UInt8) (i n:Nat) (tc:List V) (c a:Int) (e:Nat)
end
end Go.Proofs.YtmippldlhnajkaaGreatDoor.Sc
namespace Go.Proofs.YtmippldlhnajkaaGreatDoor.Sc
open Go Go.Vm
def hasL (l:List (List UInt8))(x:List UInt8):Bool:=l.any fun y=>decide (y=x)
def b4e:List (List UInt8):=[[97,110,121],[99,97,115,101],[99,97,116,99,104],[99,108,97,115,115],[99,111,110,115,117,109,101],[100,101,102,97,117,108,116],[100,101,102,101,114],[100,101,105,110,105,116],[100,111],[101,108,115,101],[101,110,117,109],[101,120,116,101,110,100],[102,97,108,115,101],[102,114,111,122,101,110],[102,117,110,99],[105,102],[105,110],[105,110,100,105,114,101,99,116],[105,110,111,117,116],[108,101,116],[109,97,116,99,104],[109,111,118,101,111,110,108,121],[112,114,111,116,111,99,111,108],[114,101,116,117,114,110],[115,116,114,117,99,116],[116,104,114,111,119],[116,104,114,111,119,115],[116,114,117,101],[116,121,112,101],[118,97,114],[119,104,101,114,101],[119,104,105,108,101]]
def b2u:List (List UInt8):=[[33],[33,61],[37],[38],[38,38],[40],[41],[42],[43],[44],[45],[45,62],[46],[47],[58],[59],[60],[60,61],[61],[61,61],[62],[62,61],[91],[93],[123],[124,124],[125]]
end Go.Proofs.YtmippldlhnajkaaGreatDoor.Sc
namespace Go.Proofs.YtmippldlhnajkaaGreatDoor.Sc
open Go Go.Vm
def a2a (s:List UInt8)(i:Nat):Nat->List UInt8
 | 0=>[]
 | k+1=>match leB ((i+(k+1):Nat):Int) s.length&&hasL b2u ((s.take (i+(k+1))).drop i)with
  | true=>(s.take (i+(k+1))).drop i
  | false=>a2a s i k
section
variable (s:List UInt8) (i n:Nat) (tc:List V) (c a:Int) (e:Nat)
end
end Go.Proofs.YtmippldlhnajkaaGreatDoor.Sc
namespace Go.Proofs.YtmippldlhnajkaaGreatDoor.Sc
open Go Go.Vm
def a9w (w:List UInt8):Int:=match hasL b4e w with
 | true=>9
 | false=>match leB 65 (w.getD 0 0).toNat&&leB (w.getD 0 0).toNat 90 with|true=>2|false=>1
section
variable (s:List UInt8) (i n:Nat) (tc:List V) (c a:Int) (e:Nat)
end
end Go.Proofs.YtmippldlhnajkaaGreatDoor.Sc
namespace Go.Proofs.YtmippldlhnajkaaGreatDoor.Sc
open Go Go.Vm
structure Tok where
 k:Int
 t:List UInt8
 a:Nat
 l:Nat
deriving DecidableEq
def b1S (l:List Tok):List V:=l.flatMap fun t=>tokC t.k t.t t.a t.l
theorem a9p (l:List Tok):(b1S l).length=l.length*4:=by
 induction l with
 | nil=>rfl
 | cons t r ih=>simp only[b1S,List.flatMap_cons,List.length_append,List.length_cons]at ih ⊢;rw[ih];simp only[tokC,List.length_cons,List.length_nil];omega
theorem a9o (l:List Tok)(t:Tok):b1S (l++[t])=b1S l++tokC t.k t.t t.a t.l:=by simp[b1S]
inductive PR where
 | err (c:Int) (a:Nat)
 | fin (t:List UInt8) (e:Nat)
 | more (t:List UInt8) (e:Nat)
section
variable (s:List UInt8)
def a8J (q ins:Nat):Nat->Nat->List UInt8->PR
 | 0,_,_=>.err 11 q
 | f+1,i,text =>
  match decide (i<s.length)&&decide (32 <=(s.getD i 0).toNat)with
  | false=>.err 11 q
  | true=>match decide ((s.getD i 0).toNat=34)with
   | true=>.fin text (i+1)
   | false=>match decide ((s.getD i 0).toNat=92)with
    | false=>a8J q ins f (i+1) (text++[s.getD i 0])
    | true=>match decide ((s.getD (i+1) 0).toNat=110)with
     | true=>a8J q ins f (i+2) (text++[10])
     | false=>match decide ((s.getD (i+1) 0).toNat=116)with
      | true=>a8J q ins f (i+2) (text++[9])
      | false=>match decide ((s.getD (i+1) 0).toNat=92)||decide ((s.getD (i+1) 0).toNat=34)with
       | true=>a8J q ins f (i+2) (text++[s.getD (i+1) 0])
       | false=>match decide ((s.getD (i+1) 0).toNat=40)with
        | true=>match decide (3<=ins)with
         | true=>.err 15 i
         | false=>.more text (i+2)
        | false=>.err 12 i
theorem a9D (q ins:Nat):∀(f g i:Nat) (text:List UInt8),s.length<=i+f->s.length<=i+g->a8J s q ins f i text=a8J s q ins g i text:=by
 have z:∀(g i:Nat) (text:List UInt8),s.length<=i->a8J s q ins g i text=.err 11 q:=by
  intro g i text h;cases g with
  | zero=>rfl
  | succ g =>
   have:(decide (i<s.length)&&decide (32 <=(s.getD i 0).toNat))=false:=by rw[Bool.and_eq_false_iff,decide_eq_false_iff_not];exact .inl (by omega)
   simp only[a8J,this]
 intro f;induction f with
 | zero=>intro g i text h _;rw[z g i text (by omega)];rfl
 | succ f ih =>
  intro g i text h1 h2;cases g with
  | zero=>rw[z (f+1) i text (by omega)];rfl
  | succ g =>
   simp only[a8J];rw[ih g (i+1) (text++[s.getD i 0]) (by omega) (by omega),ih g (i+2) (text++[10]) (by omega) (by omega),ih g (i+2) (text++[9]) (by omega) (by omega),ih g (i+2) (text++[s.getD (i+1) 0]) (by omega) (by omega)]
def part (q ins i:Nat)(text:List UInt8):PR:=a8J s q ins (s.length-i) i text
theorem a8a (q ins i:Nat)(text:List UInt8):part s q ins i text =
  match decide (i<s.length)&&decide (32 <=(s.getD i 0).toNat)with
  | false=>.err 11 q
  | true=>match decide ((s.getD i 0).toNat=34)with
   | true=>.fin text (i+1)
   | false=>match decide ((s.getD i 0).toNat=92)with
    | false=>part s q ins (i+1) (text++[s.getD i 0])
    | true=>match decide ((s.getD (i+1) 0).toNat=110)with
     | true=>part s q ins (i+2) (text++[10])
     | false=>match decide ((s.getD (i+1) 0).toNat=116)with
      | true=>part s q ins (i+2) (text++[9])
      | false=>match decide ((s.getD (i+1) 0).toNat=92)||decide ((s.getD (i+1) 0).toNat=34)with
       | true=>part s q ins (i+2) (text++[s.getD (i+1) 0])
       | false=>match decide ((s.getD (i+1) 0).toNat=40)with
        | true=>match decide (3<=ins)with
         | true=>.err 15 i
         | false=>.more text (i+2)
        | false=>.err 12 i:=by
 unfold part;rw[a9D s q ins (s.length-i) (s.length-i+1) i text (by omega) (by omega)];simp only[a8J];rw[a9D s q ins (s.length-i) (s.length-(i+1)) (i+1) _ (by omega) (by omega),a9D s q ins (s.length-i) (s.length-(i+2)) (i+2) (text++[10]) (by omega) (by omega),
  a9D s q ins (s.length-i) (s.length-(i+2)) (i+2) (text++[9]) (by omega) (by omega),a9D s q ins (s.length-i) (s.length-(i+2)) (i+2) (text++[s.getD (i+1) 0]) (by omega) (by omega)]
structure MS where
 i:Nat
 toks:List Tok
 st:List (Nat×Int)
inductive MR where
 | go (x:MS)
 | done (l:List Tok)
 | err (c:Int) (a:Nat)
def a3y (toks:List Tok)(st:List (Nat×Int))(q frm:Nat)(last more:Int):PR->MR | .err c a=>.err c a | .fin t e=>.go ⟨e,toks++[⟨last,t,frm,e-frm⟩],st⟩ | .more t e=>.go ⟨e,toks++[⟨more,t,frm,e-frm⟩],(q,0)::st⟩
def bump (w:List UInt8):List (Nat×Int)->List (Nat×Int)
 | []=>[]
 |(q,p)::st=>match decide (w=[40])with
  | true=>(q,p+1)::st
  | false=>match decide (w=[41])with
   | true=>(q,p-1)::st
   | false=>(q,p)::st
def closes (b:Nat):List (Nat×Int)->Bool | []=>false |(_,p)::_=>decide (p=0)&&decide (b=41)
def roomy (toks:List Tok)(j:Nat)(r:MR):MR:=match decide (3000<=toks.length)with|true=>.err 2 j|false=>r
def stepM (x:MS):MR :=
  let j:=a0C s x.i;match decide (s.length<=j)with
  | true=>match x.st with
    | []=>.done x.toks
    |(q,_)::_=>.err 11 q
  | false =>
    let b:=s.getD j 0;match closes b.toNat x.st with
    | true=>match x.st with
      | []=>.err 0 0
      |(q,_)::st=>roomy x.toks j (a3y x.toks st q j 7 6 (part s q st.length (j+1) []))
    | false=>match decide (b.toNat=34)with
      | true=>roomy x.toks j (a3y x.toks x.st j j 4 5 (part s j x.st.length (j+1) []))
      | false=>match M0 b with
        | true=>roomy x.toks j (
            let r:=Z7 M0 s j;let w:=(s.take r).drop j;match a3x w (s.getD r 0)with
            | true=>.err 13 j
            | false=>.go ⟨r,x.toks++[⟨3,w,j,r-j⟩],x.st⟩)
        | false=>match a0x b with
          | true=>roomy x.toks j (
              let r:=Z7 a0X s j;let w:=(s.take r).drop j;match ltB 24 w.length with
              | true=>.err 14 j
              | false=>.go ⟨r,x.toks++[⟨a9w w,w,j,r-j⟩],x.st⟩)
          | false =>
            let w:=a2a s j 2;match w with
            | []=>.err 10 j
            | w=>roomy x.toks j (.go ⟨j+w.length,x.toks++[⟨8,w,j,w.length⟩],bump w x.st⟩)
inductive Reach:MS->MS->Prop
 | refl (x:MS):Reach x x
 | step (x y z:MS):stepM s x=.go y->Reach y z->Reach x z
def Ends (x:MS)(r:MR):Prop:=∃y,Reach s x y/\stepM s y=r/\(∀z,r ≠ .go z)
theorem Reach.trans {x y z:MS}(h:Reach s x y)(g:Reach s y z):Reach s x z:=by
 induction h with
 | refl x=>exact g
 | step x y w h1 _ ih=>exact .step x y z h1 (ih g)
theorem Reach.one {x y:MS}(h:stepM s x=.go y):Reach s x y:=.step x y y h (.refl y)
theorem Ends.b1d {x y:MS}{r:MR}(h:Reach s x y)(g:Ends s y r):Ends s x r:=by
 obtain⟨z,h1,h2⟩:=g;exact⟨z,h.trans s h1,h2⟩
theorem Ends.det {x:MS}{r r':MR}(h:Ends s x r)(g:Ends s x r'):r=r':=by
 obtain⟨y,h1,h2,h3⟩:=h;obtain⟨z,g1,g2,g3⟩:=g;induction h1 with
 | refl x =>
  cases g1 with
  | refl=>rw[<-h2,<-g2]
  | step _ y _ k1 _=>rw[h2]at k1;exact absurd k1 (h3 y)
 | step x y w k1 k2 ih =>
  cases g1 with
  | refl=>rw[g2]at k1;exact absurd k1 (g3 y)
  | step _ y' _ m1 m2 =>
   rw[k1]at m1;cases m1;exact ih h2 m2
end
end Go.Proofs.YtmippldlhnajkaaGreatDoor.Sc
namespace Go.Proofs.YtmippldlhnajkaaGreatDoor.Sc
open Go Go.Vm
theorem b1P (t:List UInt8):(a0O t).length=t.length*1:=by simp[a0O]
theorem b0a (t:List UInt8)(b:UInt8):a0O t++[V.int .u8 (b.toNat:Nat)]=a0O (t++[b]):=by simp[a0O]
theorem b5N (t:List UInt8)(b:UInt8):t.length+1 =(t++[b]).length:=by simp
theorem c7H {o:Own}(t:List UInt8):b6q env.T 54 9 (.slice o t.length (a0O t))=some (.str t):=by
 show(match a5W (a0O t)with|some l=>gd (eqN t.length l.length) (some (V.str l))|none=>none)=_;rw[b5A];exact b2O (a2r rfl) rfl
theorem c0H {b:Nat}{st:List (Nat×Int)}(h:b≠41):closes b st=false:=by
 cases st with
 | nil=>rfl
 | cons x st=>simp[closes,h]
theorem c5o {s:List UInt8}{i i0 q:Nat}{toks:List Tok}{st:List (Nat×Int)}(h0:a0C s i0=i)(hi:i<s.length)(hq:(s.getD i 0).toNat=41) :
  stepM s ⟨i0,toks,(q,0)::st⟩=roomy toks i (a3y toks st q i 7 6 (part s q st.length (i+1) [])):=by
 have h1:decide (s.length<=i)=false:=by simp;omega
 simp only[stepM,h0,h1,closes,hq,decide_true,Bool.and_self]
structure LS where
 X:MS
 first:Bool
 text:List UInt8
 w:Nat
 j:Nat
 frm:Nat
 toks:List Tok
 e:Nat
end Go.Proofs.YtmippldlhnajkaaGreatDoor.Sc
namespace Go.Proofs.YtmippldlhnajkaaGreatDoor.Sc
open Go Go.Vm
section
variable {s:List UInt8} {q ins j:Nat} {text:List UInt8}
theorem part_end (h:s.length<=j):part s q ins j text=.err 11 q:=by
 have h1:(decide (j<s.length)&&decide (32 <=(s.getD j 0).toNat))=false:=by rw[Bool.and_eq_false_iff,decide_eq_false_iff_not];exact .inl (by omega)
 rw[a8a];simp only[h1]
theorem part_low (h:(s.getD j 0).toNat<32):part s q ins j text=.err 11 q:=by
 have h1:(decide (j<s.length)&&decide (32 <=(s.getD j 0).toNat))=false:=by rw[Bool.and_eq_false_iff,decide_eq_false_iff_not,decide_eq_false_iff_not];exact .inr (by omega)
 rw[a8a];simp only[h1]
variable (h:j<s.length) (h2:32 <=(s.getD j 0).toNat)
include h h2
theorem b0m:(decide (j<s.length)&&decide (32 <=(s.getD j 0).toNat))=true:=by rw[Bool.and_eq_true,decide_eq_true_eq,decide_eq_true_eq];exact⟨h,h2⟩
theorem part_fin (h3:(s.getD j 0).toNat=34):part s q ins j text=.fin text (j+1):=by
 rw[a8a,b0m h h2];simp only[decide_eq_true h3]
theorem c9n (h3:(s.getD j 0).toNat≠34)(h4:(s.getD j 0).toNat≠92):part s q ins j text=part s q ins (j+1) (text++[s.getD j 0]):=by
 rw[a8a,b0m h h2];simp only[decide_eq_false h3,decide_eq_false h4]
variable (h4:(s.getD j 0).toNat=92)
include h4
theorem a7S:decide ((s.getD j 0).toNat=34)=false:=decide_eq_false (by omega)
theorem part_n (h5:(s.getD (j+1) 0).toNat=110):part s q ins j text=part s q ins (j+2) (text++[10]):=by
 rw[a8a,b0m h h2];simp only[a7S h h2 h4,decide_eq_true h4,decide_eq_true h5]
theorem part_t (h5:(s.getD (j+1) 0).toNat=116):part s q ins j text=part s q ins (j+2) (text++[9]):=by
 have h6:decide ((s.getD (j+1) 0).toNat=110)=false:=decide_eq_false (by omega);rw[a8a,b0m h h2];simp only[a7S h h2 h4,decide_eq_true h4,h6,decide_eq_true h5]
theorem c9q (h5:(s.getD (j+1) 0).toNat=92∨(s.getD (j+1) 0).toNat=34):part s q ins j text=part s q ins (j+2) (text++[s.getD (j+1) 0]):=by
 have h6:decide ((s.getD (j+1) 0).toNat=110)=false:=decide_eq_false (by omega);have h7:decide ((s.getD (j+1) 0).toNat=116)=false:=decide_eq_false (by omega);have h8:(decide ((s.getD (j+1) 0).toNat=92)||decide ((s.getD (j+1) 0).toNat=34))=true:=by rw[Bool.or_eq_true,decide_eq_true_eq,decide_eq_true_eq];exact h5
 rw[a8a,b0m h h2];simp only[a7S h h2 h4,decide_eq_true h4,h6,h7,h8]
theorem c9o (h5:(s.getD (j+1) 0).toNat=40)(h9:3<=ins):part s q ins j text=.err 15 j:=by
 have h6:decide ((s.getD (j+1) 0).toNat=110)=false:=decide_eq_false (by omega);have h7:decide ((s.getD (j+1) 0).toNat=116)=false:=decide_eq_false (by omega);have h8:(decide ((s.getD (j+1) 0).toNat=92)||decide ((s.getD (j+1) 0).toNat=34))=false:=by rw[Bool.or_eq_false_iff,decide_eq_false_iff_not,decide_eq_false_iff_not];omega
 rw[a8a,b0m h h2];simp only[a7S h h2 h4,decide_eq_true h4,h6,h7,h8,decide_eq_true h5,decide_eq_true h9]
theorem c9p (h5:(s.getD (j+1) 0).toNat=40)(h9:¬3<=ins):part s q ins j text=.more text (j+2):=by
 have h6:decide ((s.getD (j+1) 0).toNat=110)=false:=decide_eq_false (by omega);have h7:decide ((s.getD (j+1) 0).toNat=116)=false:=decide_eq_false (by omega);have h8:(decide ((s.getD (j+1) 0).toNat=92)||decide ((s.getD (j+1) 0).toNat=34))=false:=by rw[Bool.or_eq_false_iff,decide_eq_false_iff_not,decide_eq_false_iff_not];omega
 rw[a8a,b0m h h2];simp only[a7S h h2 h4,decide_eq_true h4,h6,h7,h8,decide_eq_true h5,decide_eq_false h9]
theorem part_bad (h5:(s.getD (j+1) 0).toNat≠110)(h6:(s.getD (j+1) 0).toNat≠116)(h7:(s.getD (j+1) 0).toNat≠92)(h8:(s.getD (j+1) 0).toNat≠34)(h9:(s.getD (j+1) 0).toNat≠40):part s q ins j text=.err 12 j:=by
 have h10:(decide ((s.getD (j+1) 0).toNat=92)||decide ((s.getD (j+1) 0).toNat=34))=false:=by rw[Bool.or_eq_false_iff,decide_eq_false_iff_not,decide_eq_false_iff_not];omega
 rw[a8a,b0m h h2];simp only[a7S h h2 h4,decide_eq_true h4,decide_eq_false h5,decide_eq_false h6,h10,decide_eq_false h9]
end
end Go.Proofs.YtmippldlhnajkaaGreatDoor.Sc
