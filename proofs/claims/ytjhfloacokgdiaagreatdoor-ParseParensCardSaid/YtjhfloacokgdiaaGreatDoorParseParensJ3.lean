/- Texts of ParseParens, joined. -/
import Derived.Test.YtjhfloacokgdiaaGreatDoorParseParensJ2
import Derived.KernelRfl
import Derived.Test.YtjhfloacokgdiaaGreatDoorProg
set_option maxRecDepth 100000
set_option maxHeartbeats 20000000
set_option linter.unusedSimpArgs false
set_option linter.unusedVariables false
set_option linter.unusedSectionVars false
namespace Go.Vm
class OkF (env:Env){α:Type}(p:Option α)(g:outParam Nat)(l:outParam (List V))(H:outParam Hp)(o:outParam (α->Out)):Prop where
 ok:∀{r},p=some r->E env (.call g l) H=some (o r)
class AllC (α:Type)(Q:outParam ((α->Prop)->Prop)):Prop where
 all:∀{P},Q P -> ∀x,P x
instance {α β:Type}:AllC (α×β) (fun P=>∀a b,P (a,b)):=⟨fun h x=>h x.1 x.2⟩
instance {α β:Type}:AllC (Rs α β) (fun P=>(∀a,P (.ok a)) /\ ∀b,P (.pan b)):=⟨fun h x=>by cases x with|ok a=>exact h.1 a|pan b=>exact h.2 b⟩
instance:AllC Empty (fun _=>True):=⟨fun _ x=>x.elim⟩
class b2z {α:Type}(cl:List α->List V)(sz:outParam Nat)(c1:outParam (α->List V)):Prop where
 e:a2b sz c1 cl
instance:b2z clS 1 (fun s:Str=>[V.str s]):=⟨encS⟩
instance {k:IntKind}:b2z (clI k) 1 (fun n:Int=>[V.int k n]):=⟨encI k⟩
instance:b2z clB 1 (fun n:Bool=>[V.bool n]):=⟨encB⟩
instance {α:Type}{cl:List α->List V}:b2z (clSl cl) 1 (fun l:List α=>[V.slice .sealed (List.length l) (cl l)]):=⟨encSl cl⟩
class b1U (α:Type)(cl:outParam (List α->List V))(sz:outParam Nat)(c1:outParam (α->List V)):Prop where
 e:a2b sz c1 cl
instance:b1U Str clS 1 (fun s:Str=>[V.str s]):=⟨encS⟩
instance:b1U Int (clI .i64) 1 (fun n:Int=>[V.int .i64 n]):=⟨encI _⟩
instance:b1U Bool clB 1 (fun n:Bool=>[V.bool n]):=⟨encB⟩
instance {α:Type}{cl:List α->List V}{sz:Nat}{c1:α->List V} [b1U α cl sz c1]:b1U (List α) (clSl cl) 1 (fun l:List α=>[V.slice .sealed (List.length l) (cl l)]):=⟨encSl cl⟩
@[reducible] def lk (t:Nat) (fr:Fr):V:=Go.Vm.look t fr
def cH (H:Hp)(k j:Nat):V:=match hget k H with
 | some (.row cs)=>(cs[j]?).getD .undef
 | _=>.undef
def oH (H:Hp)(k:Nat):Obj:=(hget k H).getD .gone
def ow (o:Own):V->V
 | .slice _ n cs=>.slice o n cs
 | v=>v
def agC (v:V)(j:Nat):V:=match v with
 | .agg cs=>(cs[j]?).getD .undef
 | _=>.undef
def FE (j:Fr×Hp)(G:Fr->Hp->Prop):Prop:=∃fr H,fF j.1 some=some fr/\fH j.2 some=some H/\G fr H
theorem FE_ok {j:Fr×Hp}{G:Fr->Hp->Prop}(h:FE j G):G j.1 j.2:=by
 obtain⟨fr,H,h1,h2,h3⟩:=h
 rw[fF_eq]at h1
 rw[a9H]at h2
 cases h1;cases h2
 exact h3
def b27 (fr:Fr)(o:Oper):Bool:=match o.guard with
 | some _=>false
 | none=>match o.op with
  | .indexAddr _ a _=>match ev fr a with
   | some (.slice ..)=>false
   | _=>true
  | .index ..=>false
  | .slice _ a lo hi _=>match ev fr a,lo,hi with
   | some (.str _),_,_=>false
   | _,none,none=>true
   | _,_,_=>false
  | .binOp op _ a _ _=>match op with
   | .add=>match ev fr a with
    | some (.str _)=>false
    | _=>true
   | .quo | .rem=>false
   | _=>true
  | .load _ a=>match ev fr a with
   | some (.cptr _)=>false
   | _=>true
  | .convert _ _ a=>match ev fr a with
   | some (.int ..)=>true
   | _=>false
  | .call {callee:=.builtin .len,.. } | .call {callee:=.builtin .min,.. } | .call {callee:=.builtin .max,.. }=>true
  | .call _ | .mapUpdate .. | .lookup .. | .insert .. | .makeSlice .. | .panic _ | .pick ..=>false
  | _=>true
section
variable {β:Type}
def b9j (env:Env)(orc:Orc):List Oper->Fr->Hp ->(List Oper->Fr->Hp->Option β)->Option β
 | [],fr,H,k=>k [] fr H
 | o::rest,fr,H,k=>match b27 fr o with
  | false=>k (o::rest) fr H
  | true=>match Q8 o.op with
   | true=>match a0f env.T fr o.op with
    | some v=>fA v fun v=>b9j env orc rest (X6 o.dst v fr) H k
    | none=>none
   | false=>match V8 env orc fr H o with
    | some (.val v H1)=>fV v fun v=>fH H1 fun H1=>b9j env orc rest (X6 o.dst v fr) H1 k
    | _=>none
end
section
variable {env:Env} {orc:Orc} {f nr:Nat} {ops:Array Oper} {o:Oper} {rest rest':List Oper} {fr fr1 fr':Fr} {H H1 H':Hp} {K:Res->Prop}
theorem b1T (h:b27 fr o=true):D7 ops o fr=some true:=by
 unfold b27 at h
 split at h
 ·cases h
 ·rename_i hg
  simp only[D7,hg]
theorem b40:∀{rest:List Oper} {fr:Fr} {H:Hp} (_:b9j env orc rest fr H (fun l fr H=>some (l,fr,H))=some (rest',fr',H')) (_:Os env orc ops rest' fr' H' K),Os env orc ops rest fr H K
 | [],fr,H,h,h2=>by cases h;exact h2
 | o::rest,fr,H,h,h2=>by
  unfold b9j at h
  split at h
  ·cases h;exact h2
  ·rename_i hs
   split at h
   ·rename_i hp
    split at h
    ·rename_i v hv
     rw[b5c]at h
     exact a3Q (b1T hs) hp hv (b40 h h2)
    ·cases h
   ·rename_i hp
    split at h
    ·rename_i v H1 hv
     rw[fV_eq,a9H]at h
     exact a1I (b1T hs) hp hv (b40 h h2)
    ·cases h
theorem oR (hs:b27 fr o=true)(h:b9j env orc (o::rest) fr H (fun l fr H=>some (l,fr,H))=some (rest',fr',H'))(h2:Os env orc ops rest' fr' H' K):Os env orc ops (o::rest) fr H K:=b40 h h2
def CallR (env:Env)(orc:Orc)(ops:Array Oper)(o:Oper)(rest:List Oper)(fr:Fr)(H:Hp)(ns:List Nat)(K:Res->Prop):Out->Prop
 | .ret v H3=>∃v4 H4,a4C (a01 (K9 ns (newName o)) dep v)=some v4/\a0s (a06 (K9 ns (newName o)) H3 H)=some H4/\a3i H H3 (newName o) ns.length=true/\Os env orc ops rest (X6 o.dst v4 fr) H4 K
 | .pan v H3=>∃v4 H4,a4C (a01 (K9 ns (newName o)) dep v)=some v4/\a0s (a06 (K9 ns (newName o)) H3 H)=some H4/\a3i H H3 (newName o) ns.length=true/\K (.panic v4,fr,H4)
 | .res _=>False
def c07 (env:Env)(orc:Orc)(ops:Array Oper)(o:Oper)(rest:List Oper)(fr:Fr)(H:Hp)(K:Res->Prop):Out->Prop
 | .ret v H3=>∃v2,H3=[]/\a01 a3O dep v=some v2/\Os env orc ops rest (X6 o.dst v2 fr) H K
 | _=>False
section
variable {α γ:Type} {p:Option α} {k:α->Option γ} {y:γ} {g:Nat} {out:α->Out} {args:Array Operand} {at_:Array TypeId} {fo:Operand} {l a c ac l2:List V} {ns:List Nat} {Hc:Hp}
theorem bindP_b {β δ:Type}{q:Option (Rs α β)}{k:α->Option δ}{e:β->Option δ}{y:δ}(h:p8 q k e=some y):q.bind (fun x=>match x with | .ok a=>k a | .pan b=>e b)=some y:=by
 cases q with
 | none=>exact h
 | some x=>cases x<;>exact h
theorem k_call (ho:o.op=.call ⟨.value fo,args,at_⟩)(h:p.bind k=some y) [i:OkF env p g ac Hc out] (hw:D7 ops o fr=some true)(hf:ev fr fo=some (.func (.func g) a c))(hl:evL fr args.toList=some l)
  (hq:(env.quiet g||env.look g)=false) (hp:a6A env g (a++l++c) H=some (ns,ac,Hc)) (hk:∀x,k x=some y->CallR env (E env) ops o rest fr H ns K (out x)):Os env (E env) ops (o::rest) fr H K:=by
 obtain⟨x,h1,h2⟩:=a2t h
 have h3:=hk x h2
 have h4:=i.ok h1
 revert h3 h4
 cases out x with
 | ret v H3 =>
  rintro⟨v4,H4,e1,e2,e3,e4⟩ h4
  exact b98 hw ho hf hl (a4B hq hp h4 e1 e2 e3) e4
 | pan v H3 =>
  rintro⟨v4,H4,e1,e2,e3,e4⟩ h4
  exact c4R hw ho hf hl (b9o hq hp h4 e1 e2 e3) e4
 | res r=>exact fun h=>h.elim
def LookR (env:Env)(orc:Orc)(ops:Array Oper)(o:Oper)(rest:List Oper)(fr:Fr)(H:Hp)(ns:List Nat)(K:Res->Prop):Out->Prop
 | .ret v H3=>∃v4,a4C (a01 (K9 ns (newName o)) dep v)=some v4/\a0s (a06 (K9 ns (newName o)) H3 H)=some H/\a3i H H3 (newName o) ns.length=true/\Os env orc ops rest (X6 o.dst v4 fr) H K
 | _=>False
theorem k_look (ho:o.op=.call ⟨.value fo,args,at_⟩)(h:p.bind k=some y) [i:OkF env p g ac Hc out] (hw:D7 ops o fr=some true)(hf:ev fr fo=some (.func (.func g) a c))(hl:evL fr args.toList=some l)
  (hq:env.quiet g=false) (hlk:env.look g=true) (hp:a6A env g (a++l++c) H=some (ns,ac,Hc)) (hk:∀x,k x=some y->LookR env (E env) ops o rest fr H ns K (out x)):Os env (E env) ops (o::rest) fr H K:=by
 obtain⟨x,h1,h2⟩:=a2t h
 have h3:=hk x h2
 have h4:=i.ok h1
 revert h3 h4
 cases out x with
 | ret v H3 =>
  rintro⟨v4,e1,e2,e3,e4⟩ h4
  exact b98 hw ho hf hl (b7Q hq hlk hp h4 e1 e2 e3) e4
 | pan v H3=>exact fun h=>h.elim
 | res r=>exact fun h=>h.elim
theorem k_quiet (ho:o.op=.call ⟨.value fo,args,at_⟩)(h:p.bind k=some y) [i:OkF env p g l2 [] out] (hw:D7 ops o fr=some true)(hf:ev fr fo=some (.func (.func g) [] []))(hq:env.quiet g=true)(hl:evL fr args.toList=some l)
  (hr:a0P (a01 a3O dep) (l.map a7Q)=some l2) (hk:∀x,k x=some y->c07 env (E env) ops o rest fr H K (out x)):Os env (E env) ops (o::rest) fr H K:=by
 obtain⟨x,h1,h2⟩:=a2t h
 have h3:=hk x h2
 have h4:=i.ok h1
 revert h3 h4
 cases out x with
 | ret v H3 =>
  rintro⟨v2,rfl,e1,e2⟩ h4
  exact b7h hw ho hf hq hl hr h4 e1 e2
 | pan v H3=>exact fun h=>h.elim
 | res r=>exact fun h=>h.elim
end
section
variable {α γ:Type} {y:γ} {sz:Nat} {c1:α->List V} {cl:List α->List V}
theorem k_idx {l:List α}{i:Int}{k:α->Option γ}{kk:IntKind}{t e:Nat}{a b:Operand}{w:Own}{yt ye:Ty}(ho:o.op=.indexAddr t a b)(h:(idx' l i).bind k=some y)(ha:ev fr a=some (.slice w l.length (cl l))) [he:b2z cl sz c1]
  (hk:∀x,k x=some y->Os env orc ops rest (X6 o.dst (.cptr (c1 x++cl (l.drop (i.toNat+1)))) fr) H K)
  (hw:D7 ops o fr=some true:=by exact rfl) (hb:ev fr b=some (.int kk i):=by exact rfl) (h1:N8 t env.T=some yt:=by exact rfl) (h2:yt.sh=.slice e:=by exact rfl) (h3:N8 e env.T=some ye:=by exact rfl) (h4:ye.size=sz:=by exact rfl):Os env orc ops (o::rest) fr H K:=by
 obtain⟨x,g1,g2⟩:=a2t h
 exact os_idx he.e g1 hw ho ha hb h1 h2 h3 h4 (hk x g2)
theorem k_idxS {s:Str}{i:Int}{k:Int->Option γ}{kk:IntKind}{t:Nat}{a b:Operand}{yt:Ty}(ho:o.op=.index t a b)(h:(idxS s i).bind k=some y)(hk:∀x,k x=some y->Os env orc ops rest (X6 o.dst (.int .u8 x) fr) H K)
  (hw:D7 ops o fr=some true:=by exact rfl) (ha:ev fr a=some (.str s):=by exact rfl) (hb:ev fr b=some (.int kk i):=by exact rfl) (h1:N8 t env.T=some yt:=by exact rfl) (h2:yt.sh=.string:=by exact rfl):Os env orc ops (o::rest) fr H K:=by
 obtain⟨x,g1,g2⟩:=a2t h
 exact os_idxS g1 hw ho ha hb h1 h2 (hk x g2)
theorem k_subS {s:Str}{i j:Int}{k:Str->Option γ}{t:Nat}{a:Operand}{lo hi:Option Operand}{l' h':Option V}{yt:Ty}(ho:o.op=.slice t a lo hi none)(h:(subS s i j).bind k=some y)(hk:∀x,k x=some y->Os env orc ops rest (X6 o.dst (.str x) fr) H K)
  (hw:D7 ops o fr=some true:=by exact rfl) (ha:ev fr a=some (.str s):=by exact rfl) (hl:evX fr lo=some l':=by exact rfl) (hh:evX fr hi=some h':=by exact rfl) (hi':bnd l' 0=some i:=by exact rfl) (hj':bnd h' s.length=some j:=by exact rfl)
  (h1:N8 t env.T=some yt:=by exact rfl) (h2:yt.sh=.string:=by exact rfl):Os env orc ops (o::rest) fr H K:=by
 obtain⟨x,g1,g2⟩:=a2t h
 exact os_subS g1 hw ho ha hl hh hi' hj' h1 h2 (hk x g2)
theorem k_subL {l:List α}{i j:Int}{k:List α->Option γ}{t e:Nat}{w:Own}{a:Operand}{lo hi:Option Operand}{l' h':Option V}{yt ye:Ty}(ho:o.op=.slice t a lo hi none)(h:(b0X l i j).bind k=some y)(ha:ev fr a=some (.slice w l.length (cl l))) [he:b2z cl sz c1]
  (hk:∀x:List α,k x=some y->Os env orc ops rest (X6 o.dst (.slice .sealed x.length (cl x)) fr) H K)
  (hw:D7 ops o fr=some true:=by exact rfl) (hl:evX fr lo=some l':=by exact rfl) (hh:evX fr hi=some h':=by exact rfl) (hi':bnd l' 0=some i:=by exact rfl) (hj':bnd h' l.length=some j:=by exact rfl)
  (h1:N8 t env.T=some yt:=by exact rfl) (h2:yt.sh=.slice e:=by exact rfl) (h3:N8 e env.T=some ye:=by exact rfl) (h4:ye.size=sz:=by exact rfl) (hq:(l'.isSome||h'.isSome)=true:=by exact rfl):Os env orc ops (o::rest) fr H K:=by
 obtain⟨x,g1,g2⟩:=a2t h
 exact os_subL he.e g1 hw ho ha hl hh hi' hj' h1 h2 h3 h4 hq (hk x g2)
theorem k_cat {s u:Str}{k:Str->Option γ}{t t2:Nat}{a b:Operand}(ho:o.op=.binOp .add t a b t2)(h:(cat s u).bind k=some y)(hk:∀x,k x=some y->Os env orc ops rest (X6 o.dst (.str x) fr) H K)
  (hw:D7 ops o fr=some true:=by exact rfl) (ha:ev fr a=some (.str s):=by exact rfl) (hb:ev fr b=some (.str u):=by exact rfl):Os env orc ops (o::rest) fr H K:=by
 obtain⟨x,g1,g2⟩:=a2t h
 exact os_cat g1 hw ho ha hb (hk x g2)
section
variable {l m:List α} {k:List α->Option γ} {bytes:Nat} {args:Array Operand} {at_:Array TypeId} {a b:Operand} {t xt e g:Nat} {w:Own} {yt yx ye:Ty} {v:V}
theorem k_app (ho:o.op=.call ⟨.builtin .append,args,at_⟩)(h:(app bytes l m).bind k=some y)(ha:args.toList=[a,b])(hs:ev fr a=some (.slice (.tag g) l.length (cl l))) [he:b2z cl sz c1]
  (hm:Nat.beq m.length 0=false) (hk:∀x,k x=some y -> ∃H1,a0s (some (hset g (.tip (tpe sz x.length) x.length) H))=some H1/\Os env orc ops rest (X6 o.dst (.slice (.tag g) x.length (cl x)) fr) H1 K)
  (hw:D7 ops o fr=some true:=by exact rfl) (ht:at_.toList=[t,xt]:=by exact rfl) (hv:ev fr b=some v:=by exact rfl)
  (h1:N8 t env.T=some yt:=by exact rfl) (h2:N8 xt env.T=some yx:=by exact rfl) (h3:yt.sh=.slice e:=by exact rfl) (h4:a7F yx.sh=true:=by exact rfl) (h5:N8 e env.T=some ye:=by exact rfl) (h6:ye.size=sz:=by exact rfl) (h7:ye.bytes=bytes:=by exact rfl) (h8:Nat.beq sz 0=false:=by exact rfl)
  (h9:a5t env.T e v H=some (m.length,cl m):=by exact(b3v (a2W rfl) rfl)) (h10:hget g H=some (.tip (tpe sz l.length) l.length):=by exact rfl):Os env orc ops (o::rest) fr H K:=by
 obtain⟨x,g1,g2⟩:=a2t h
 obtain⟨H1,g3,g4⟩:=hk x g2
 exact c2e he.e g1 hw ho ha ht hs hv h1 h2 h3 h4 h5 h6 h7 h8 h9 hm h10 g3 g4
theorem k_appT (ho:o.op=.call ⟨.builtin .append,args,at_⟩)(h:(app bytes l m).bind k=some y)(ha:args.toList=[a,b]) [he:b1U α cl sz c1]
  (hm:Nat.beq m.length 0=false) (hk:∀x,k x=some y -> ∃H1,a0s (some (hset g (.tip (tpe sz x.length) x.length) H))=some H1/\Os env orc ops rest (X6 o.dst (.slice (.tag g) x.length (cl x)) fr) H1 K)
  (hs:ev fr a=some (.slice (.tag g) l.length (cl l)):=by exact rfl) (hw:D7 ops o fr=some true:=by exact rfl) (ht:at_.toList=[t,xt]:=by exact rfl) (hv:ev fr b=some v:=by exact rfl)
  (h1:N8 t env.T=some yt:=by exact rfl) (h2:N8 xt env.T=some yx:=by exact rfl) (h3:yt.sh=.slice e:=by exact rfl) (h4:a7F yx.sh=true:=by exact rfl) (h5:N8 e env.T=some ye:=by exact rfl) (h6:ye.size=sz:=by exact rfl) (h7:ye.bytes=bytes:=by exact rfl) (h8:Nat.beq sz 0=false:=by exact rfl)
  (h9:a5t env.T e v H=some (m.length,cl m):=by exact(b3v (a2W rfl) rfl)) (h10:hget g H=some (.tip (tpe sz l.length) l.length):=by exact rfl):Os env orc ops (o::rest) fr H K:=by
 obtain⟨x,g1,g2⟩:=a2t h
 obtain⟨H1,g3,g4⟩:=hk x g2
 exact c2e he.e g1 hw ho ha ht hs hv h1 h2 h3 h4 h5 h6 h7 h8 h9 hm h10 g3 g4
theorem k_appD (ho:o.op=.call ⟨.builtin .append,args,at_⟩)(h:(app bytes l m).bind k=some y)(ha:args.toList=[a,b])(hs:ev fr a=some (.slice (.tag g) l.length (cl l))) [he:b2z cl sz c1] {w2:Own}(hv:ev fr b=some (.slice w2 m.length (cl m)))
  (hk:∀x,k x=some y -> ∃H1,a0s (some (hset g (.tip (tpe sz x.length) x.length) H))=some H1/\Os env orc ops rest (X6 o.dst (.slice (.tag g) x.length (cl x)) fr) H1 K)
  (hw:D7 ops o fr=some true:=by exact rfl) (ht:at_.toList=[t,xt]:=by exact rfl)
  (h1:N8 t env.T=some yt:=by exact rfl) (h2:N8 xt env.T=some yx:=by exact rfl) (h3:yt.sh=.slice e:=by exact rfl) (h4:a7F yx.sh=true:=by exact rfl) (h5:N8 e env.T=some ye:=by exact rfl) (h6:ye.size=sz:=by exact rfl) (h7:ye.bytes=bytes:=by exact rfl) (h8:Nat.beq sz 0=false:=by exact rfl)
  (h10:hget g H=some (.tip (tpe sz l.length) l.length):=by exact rfl) (hS:a0s (some (hset g (.tip (tpe sz l.length) l.length) H))=some H:=by exact rfl):Os env orc ops (o::rest) fr H K:=by
 obtain⟨x,g1,g2⟩:=a2t h
 have h9:a5t env.T e (.slice w2 m.length (cl m)) H=some (m.length,cl m):=by
  have:=he.e.length m
  subst h6
  simp only[a5t,h5]
  exact b3v (a2W this.symm) rfl
 obtain⟨H1,g3,g4⟩:=hk x g2
 exact c3M he.e g1 hw ho ha ht hs hv h1 h2 h3 h4 h5 h6 h7 h8 h9 h10 hS g3 g4
theorem k_appU (ho:o.op=.call ⟨.builtin .append,args,at_⟩)(h:(app bytes l m).bind k=some y)(ha:args.toList=[a,b]) [he:b1U α cl sz c1] {w2:Own}(hv:ev fr b=some (.slice w2 m.length (cl m)))
  (hk:∀x,k x=some y -> ∃H1,a0s (some (hset g (.tip (tpe sz x.length) x.length) H))=some H1/\Os env orc ops rest (X6 o.dst (.slice (.tag g) x.length (cl x)) fr) H1 K)
  (hs:ev fr a=some (.slice (.tag g) l.length (cl l)):=by exact rfl) (hw:D7 ops o fr=some true:=by exact rfl) (ht:at_.toList=[t,xt]:=by exact rfl)
  (h1:N8 t env.T=some yt:=by exact rfl) (h2:N8 xt env.T=some yx:=by exact rfl) (h3:yt.sh=.slice e:=by exact rfl) (h4:a7F yx.sh=true:=by exact rfl) (h5:N8 e env.T=some ye:=by exact rfl) (h6:ye.size=sz:=by exact rfl) (h7:ye.bytes=bytes:=by exact rfl) (h8:Nat.beq sz 0=false:=by exact rfl)
  (h10:hget g H=some (.tip (tpe sz l.length) l.length):=by exact rfl) (hS:a0s (some (hset g (.tip (tpe sz l.length) l.length) H))=some H:=by exact rfl):Os env orc ops (o::rest) fr H K:=by
 obtain⟨x,g1,g2⟩:=a2t h
 have h9:a5t env.T e (.slice w2 m.length (cl m)) H=some (m.length,cl m):=by
  have:=he.e.length m
  subst h6
  simp only[a5t,h5]
  exact b3v (a2W this.symm) rfl
 obtain⟨H1,g3,g4⟩:=hk x g2
 exact c3M he.e g1 hw ho ha ht hs hv h1 h2 h3 h4 h5 h6 h7 h8 h9 h10 hS g3 g4
theorem k_appN (ho:o.op=.call ⟨.builtin .append,args,at_⟩)(h:(app bytes l m).bind k=some y)(ha:args.toList=[a,b])(how:w=.nil∨w=.full) [he:b1U α cl sz c1]
  (hm:Nat.beq m.length 0=false) (hk:∀x,k x=some y -> ∃H1,a0s (some (hset (newName o) (.tip (tpe sz x.length) x.length) H))=some H1/\Os env orc ops rest (X6 o.dst (.slice (.tag (newName o)) x.length (cl x)) fr) H1 K)
  (hs:ev fr a=some (.slice w l.length (cl l)):=by exact rfl) (hw:D7 ops o fr=some true:=by exact rfl) (ht:at_.toList=[t,xt]:=by exact rfl) (hv:ev fr b=some v:=by exact rfl)
  (h1:N8 t env.T=some yt:=by exact rfl) (h2:N8 xt env.T=some yx:=by exact rfl) (h3:yt.sh=.slice e:=by exact rfl) (h4:a7F yx.sh=true:=by exact rfl) (h5:N8 e env.T=some ye:=by exact rfl) (h6:ye.size=sz:=by exact rfl) (h7:ye.bytes=bytes:=by exact rfl) (h8:Nat.beq sz 0=false:=by exact rfl)
  (h9:a5t env.T e v H=some (m.length,cl m):=by exact(b3v (a2W rfl) rfl)) (h10:hget (newName o) H=none:=by exact rfl):Os env orc ops (o::rest) fr H K:=by
 obtain⟨x,g1,g2⟩:=a2t h
 obtain⟨H1,g3,g4⟩:=hk x g2
 exact c3N he.e g1 hw ho ha ht how hs hv h1 h2 h3 h4 h5 h6 h7 h8 h9 hm h10 g3 g4
theorem k_appF (ho:o.op=.call ⟨.builtin .append,args,at_⟩)(h:(app bytes l m).bind k=some y)(ha:args.toList=[a,b])(how:w=.nil/\l=[]∨w=.full/\leN 1 l.length=true) [he:b1U α cl sz c1] {w2:Own}(hv:ev fr b=some (.slice w2 m.length (cl m)))
  (hk:∀x,k x=some y -> ∃H1,a0s (some (hset (newName o) (.tip (tpe sz x.length) x.length) H))=some H1/\Os env orc ops rest (X6 o.dst (.slice (.tag (newName o)) x.length (cl x)) fr) H1 K)
  (hs:ev fr a=some (.slice w l.length (cl l)):=by exact rfl) (hw:D7 ops o fr=some true:=by exact rfl) (ht:at_.toList=[t,xt]:=by exact rfl)
  (h1:N8 t env.T=some yt:=by exact rfl) (h2:N8 xt env.T=some yx:=by exact rfl) (h3:yt.sh=.slice e:=by exact rfl) (h4:a7F yx.sh=true:=by exact rfl) (h5:N8 e env.T=some ye:=by exact rfl) (h6:ye.size=sz:=by exact rfl) (h7:ye.bytes=bytes:=by exact rfl) (h8:Nat.beq sz 0=false:=by exact rfl)
  (h10:hget (newName o) H=none:=by exact rfl):Os env orc ops (o::rest) fr H K:=by
 obtain⟨x,g1,g2⟩:=a2t h
 have h9:a5t env.T e (.slice w2 m.length (cl m)) H=some (m.length,cl m):=by
  have:=he.e.length m
  subst h6
  simp only[a5t,h5]
  exact b3v (a2W this.symm) rfl
 obtain⟨H1,g3,g4⟩:=hk x g2
 exact os_appF he.e g1 hw ho ha ht how hs hv h1 h2 h3 h4 h5 h6 h7 h8 h9 h10 g3 g4
end
end
def takeC:Nat->List V->Option (List V)
 | 0,_=>some []
 | n+1,c::cs=>match takeC n cs with
  | some r=>some (c::r)
  | none=>none
 | _+1,[]=>none
theorem c0I:∀{n:Nat} {cs c:List V},takeC n cs=some c->c.length=n /\ ∃r,cs=c++r
 | 0,cs,c,h=>by cases h;exact⟨rfl,cs,rfl⟩
 | n+1,[],c,h=>by cases h
 | n+1,d::cs,c,h=>by
  unfold takeC at h
  split at h
  ·rename_i r hr
   cases h
   obtain⟨h1,q,h2⟩:=c0I hr
   exact⟨by rw[List.length_cons,h1],q,by rw[h2];rfl⟩
  ·cases h
theorem k_loadA {t:Nat}{a:Operand}{cs c c':List V}{y:Ty}(ho:o.op=.load t a)(ha:ev fr a=some (.cptr cs))(h1:N8 t env.T=some y)(h2:a0O y.sh=true)(hs:takeC y.size cs=some c)(hf:fL c some=some c')
  (h:Os env orc ops rest (X6 o.dst (.agg c') fr) H K) (hw:D7 ops o fr=some true:=by exact rfl):Os env orc ops (o::rest) fr H K:=by
 rw[b9G]at hf
 cases hf
 obtain⟨g1,r,g2⟩:=c0I hs
 exact os_loadA hw ho ha g2 h1 h2 g1 h
theorem k_load0 {t:Nat}{a:Operand}{cs:List V}(ho:o.op=.load t a)(ha:ev fr a=some (.cptr cs)){v:V}{H1:Hp}(hv:b5g (V8 env orc fr H o)=some (.val v H1))(h:Os env orc ops rest (X6 o.dst v fr) H1 K)(hw:D7 ops o fr=some true:=by exact rfl):Os env orc ops (o::rest) fr H K :=
 c2f hw (by rw[ho];rfl) hv h
theorem k_if {c:Operand}{a b:Code}{t:Bool}{γ:Type}{X Y z:γ}(hc:ev fr c=some (.bool t))(h:cond t X Y=z)(h1:t=true->X=z->Ev env orc f nr a fr H K)(h2:t=false->Y=z->Ev env orc f nr b fr H K):Ev env orc f nr (.cond c a b) fr H K:=by
 cases t with
 | true=>exact Z6 hc rfl (h1 rfl h)
 | false=>exact a0D hc rfl (h2 rfl h)
theorem k_guard {j d:Nat}{w c:Bool}{fr':Fr}{γ:Type}{X Y z:γ}(h:cond c X Y=z)(hg:o.guard=some (j,w))(hd:(ops[j]?).bind (·.dst)=some d)(hf:fr =(d,.bool c)::fr')
  (h1:c=true->X=z->Os env orc ops (o::rest) ((d,.bool true)::fr') H K) (h2:c=false->Y=z->Os env orc ops (o::rest) ((d,.bool false)::fr') H K):Os env orc ops (o::rest) fr H K:=by
 subst hf
 cases c with
 | true=>exact h1 rfl h
 | false=>exact h2 rfl h
theorem k_gd {b:Bool}{γ:Type}{X:Option γ}{z:γ}{G:Prop}(h:gdO b X=some z)(h1:b=true->X=some z->G):G:=by
 obtain⟨h2,h3⟩:=gdO_inv h
 exact h1 h2 h3
structure Jn (i:Nat)(α:Type) where
 j:Fr->Hp->α->Fr×Hp
theorem a7G {α γ:Type}{a b:Code}{A:Option α}{k:α->Option γ}{y:γ}(J:Jn (a2m b) α)(h:A.bind k=some y)
  (hA:∀x,A=some x->Ev env orc f nr a fr H (segK env f nr (a2m b) (J.j fr H x).1 (J.j fr H x).2 K)) (hB:∀x,k x=some y->FE (J.j fr H x) fun fr H=>Ev env orc f nr b fr H K) (hc:env.cut f (a2m b)=true:=by exact rfl):Ev env orc f nr (.seq a b) fr H K:=by
 obtain⟨x,h1,h2⟩:=a2t h
 exact ev_seg _ _ hc (hA x h1) (FE_ok (hB x h2))
theorem a5c {α ρ:Type}{a b:Code}{A:Option (Lr α ρ)}{k:α->Option ρ}{y:ρ}(KR:ρ->Res->Prop)(J:Jn (a2m b) α)(h:a1A A k=some y)
  (hA:∀x,A=some x->Ev env orc f nr a fr H (segL env f nr (a2m b) x (fun x=>(J.j fr H x).1) (fun x=>(J.j fr H x).2) KR)) (hB:∀x,k x=some y->FE (J.j fr H x) fun fr H=>Ev env orc f nr b fr H K) (hR:∀r,KR y r->r.1 ≠ .normal->K r:=by exact(fun r hr hn=>by obtain⟨e,fr1,H1⟩:=r;cases e<;>first|exact absurd rfl hn|exact hr.elim|exact hr)) (hc:env.cut f (a2m b)=true:=by exact rfl):Ev env orc f nr (.seq a b) fr H K:=by
 obtain⟨x,h1,h2⟩:=c4p h
 refine c3m x _ _ hc (hA x h1) (fun z hz=>?_) (fun z r hz hr hn=>?_)
 ·subst hz;exact FE_ok (hB z h2)
 ·subst hz;cases h2;exact hR r hr hn
theorem a5d {α γ ρ:Type}{a b:Code}{A:Option (Lr α ρ)}{k:α->Option (Lr γ ρ)}{y:Lr γ ρ}(KR:ρ->Res->Prop)(J:Jn (a2m b) α)(h:a8o A k=some y)
  (hA:∀x,A=some x->Ev env orc f nr a fr H (segL env f nr (a2m b) x (fun x=>(J.j fr H x).1) (fun x=>(J.j fr H x).2) KR)) (hB:∀x,k x=some y->FE (J.j fr H x) fun fr H=>Ev env orc f nr b fr H K) (hR:∀z r,y=.out z->KR z r->r.1 ≠ .normal->K r:=by exact(fun z r hz hr hn=>by obtain⟨e,fr1,H1⟩:=r;subst hz;cases e<;>first|exact absurd rfl hn|exact hr.elim|exact⟨_,rfl,hr⟩)) (hc:env.cut f (a2m b)=true:=by exact rfl):Ev env orc f nr (.seq a b) fr H K:=by
 obtain⟨x,h1,h2⟩:=c4r h
 refine c3m x _ _ hc (hA x h1) (fun z hz=>?_) (fun z r hz hr hn=>?_)
 ·subst hz;exact FE_ok (hB z h2)
 ·subst hz;cases h2;exact hR z r rfl hr hn
theorem k_lp {σ ρ:Type}{body:Code}{g:Nat->σ->Option ρ}{y:ρ}(J:σ->Fr×Hp)(h0:∀x,g 0 x=none)
  (hr:∀m,(∀x',g m x'=some y->Lp env f nr body (J x').1 (J x').2 K) -> ∀x,g (m+1) x=some y->FE (J x) fun fr H=>Ev env (E env) f nr body fr H (a7p env f nr body K)):∀m x,g m x=some y->Lp env f nr body (J x).1 (J x).2 K
 | 0,x,h=>by rw[h0]at h;cases h
 | m+1,x,h=>b93 (FE_ok (hr m (fun x' h'=>k_lp J h0 hr m x' h') x h))
theorem a4z {σ ρ:Type}{body:Code}{g:Nat->σ->Option ρ}{n:Nat}{s:σ}{y:ρ}(J:Jn (a05 body) σ)(h:g n s=some y)
  (hr:∀m,(∀{x'},g m x'=some y->Lp env f nr body (J.j fr H x').1 (J.j fr H x').2 K) -> ∀x,g (m+1) x=some y->FE (J.j fr H x) fun fr H=>Ev env (E env) f nr body fr H (a7p env f nr body K)) (h0:∀x,g 0 x=none:=by intros;rfl) (hn:normal env f nr (a05 body) fr H=some (J.j fr H s):=by exact rfl):Ev env (E env) f nr (.loop body) fr H K :=
 a4x (fr1:=(J.j fr H s).1) (H1:=(J.j fr H s).2) hn (k_lp (J.j fr H) h0 (fun m ih x hx=>hr m (fun h=>ih _ h) x hx) n s h)
theorem b08 {σ1 σ2 ρ:Type}{body:Code}{g:Nat->σ1->σ2->Option ρ}{n:Nat}{a1:σ1}{a2:σ2}{y:ρ}(J:Jn (a05 body) (σ1×σ2))(h:g n a1 a2=some y)
  (hr:∀m,(∀{b1 b2},g m b1 b2=some y->Lp env f nr body (J.j fr H (b1,b2)).1 (J.j fr H (b1,b2)).2 K) -> ∀a1 a2,g (m+1) a1 a2=some y->FE (J.j fr H (a1,a2)) fun fr H=>Ev env (E env) f nr body fr H (a7p env f nr body K)) (h0:∀a1 a2,g 0 a1 a2=none:=by intros;rfl) (hn:normal env f nr (a05 body) fr H=some (J.j fr H (a1,a2)):=by exact rfl):Ev env (E env) f nr (.loop body) fr H K :=
 a4z (g:=fun m x=>g m x.1 x.2) (s:=(a1,a2)) J h (fun m ih x hx=>hr m (fun{b1 b2} h=>ih (x':=(b1,b2)) h) x.1 x.2 hx) (fun x=>h0 x.1 x.2) hn
theorem b09 {σ1 σ2 σ3 ρ:Type}{body:Code}{g:Nat->σ1->σ2->σ3->Option ρ}{n:Nat}{a1:σ1}{a2:σ2}{a3:σ3}{y:ρ}(J:Jn (a05 body) (σ1×σ2×σ3))(h:g n a1 a2 a3=some y)
  (hr:∀m,(∀{b1 b2 b3},g m b1 b2 b3=some y->Lp env f nr body (J.j fr H (b1,b2,b3)).1 (J.j fr H (b1,b2,b3)).2 K) -> ∀a1 a2 a3,g (m+1) a1 a2 a3=some y->FE (J.j fr H (a1,a2,a3)) fun fr H=>Ev env (E env) f nr body fr H (a7p env f nr body K)) (h0:∀a1 a2 a3,g 0 a1 a2 a3=none:=by intros;rfl) (hn:normal env f nr (a05 body) fr H=some (J.j fr H (a1,a2,a3)):=by exact rfl):Ev env (E env) f nr (.loop body) fr H K :=
 a4z (g:=fun m x=>g m x.1 x.2.1 x.2.2) (s:=(a1,a2,a3)) J h (fun m ih x hx=>hr m (fun{b1 b2 b3} h=>ih (x':=(b1,b2,b3)) h) x.1 x.2.1 x.2.2 hx) (fun x=>h0 x.1 x.2.1 x.2.2) hn
theorem b1a {σ1 σ2 σ3 σ4 ρ:Type}{body:Code}{g:Nat->σ1->σ2->σ3->σ4->Option ρ}{n:Nat}{a1:σ1}{a2:σ2}{a3:σ3}{a4:σ4}{y:ρ}(J:Jn (a05 body) (σ1×σ2×σ3×σ4))(h:g n a1 a2 a3 a4=some y)
  (hr:∀m,(∀{b1 b2 b3 b4},g m b1 b2 b3 b4=some y->Lp env f nr body (J.j fr H (b1,b2,b3,b4)).1 (J.j fr H (b1,b2,b3,b4)).2 K) -> ∀a1 a2 a3 a4,g (m+1) a1 a2 a3 a4=some y->FE (J.j fr H (a1,a2,a3,a4)) fun fr H=>Ev env (E env) f nr body fr H (a7p env f nr body K)) (h0:∀a1 a2 a3 a4,g 0 a1 a2 a3 a4=none:=by intros;rfl) (hn:normal env f nr (a05 body) fr H=some (J.j fr H (a1,a2,a3,a4)):=by exact rfl):Ev env (E env) f nr (.loop body) fr H K :=
 a4z (g:=fun m x=>g m x.1 x.2.1 x.2.2.1 x.2.2.2) (s:=(a1,a2,a3,a4)) J h (fun m ih x hx=>hr m (fun{b1 b2 b3 b4} h=>ih (x':=(b1,b2,b3,b4)) h) x.1 x.2.1 x.2.2.1 x.2.2.2 hx) (fun x=>h0 x.1 x.2.1 x.2.2.1 x.2.2.2) hn
theorem b1b {σ1 σ2 σ3 σ4 σ5 ρ:Type}{body:Code}{g:Nat->σ1->σ2->σ3->σ4->σ5->Option ρ}{n:Nat}{a1:σ1}{a2:σ2}{a3:σ3}{a4:σ4}{a5:σ5}{y:ρ}(J:Jn (a05 body) (σ1×σ2×σ3×σ4×σ5))(h:g n a1 a2 a3 a4 a5=some y)
  (hr:∀m,(∀{b1 b2 b3 b4 b5},g m b1 b2 b3 b4 b5=some y->Lp env f nr body (J.j fr H (b1,b2,b3,b4,b5)).1 (J.j fr H (b1,b2,b3,b4,b5)).2 K) -> ∀a1 a2 a3 a4 a5,g (m+1) a1 a2 a3 a4 a5=some y->FE (J.j fr H (a1,a2,a3,a4,a5)) fun fr H=>Ev env (E env) f nr body fr H (a7p env f nr body K)) (h0:∀a1 a2 a3 a4 a5,g 0 a1 a2 a3 a4 a5=none:=by intros;rfl) (hn:normal env f nr (a05 body) fr H=some (J.j fr H (a1,a2,a3,a4,a5)):=by exact rfl):Ev env (E env) f nr (.loop body) fr H K :=
 a4z (g:=fun m x=>g m x.1 x.2.1 x.2.2.1 x.2.2.2.1 x.2.2.2.2) (s:=(a1,a2,a3,a4,a5)) J h (fun m ih x hx=>hr m (fun{b1 b2 b3 b4 b5} h=>ih (x':=(b1,b2,b3,b4,b5)) h) x.1 x.2.1 x.2.2.1 x.2.2.2.1 x.2.2.2.2 hx) (fun x=>h0 x.1 x.2.1 x.2.2.1 x.2.2.2.1 x.2.2.2.2) hn
theorem b1c {σ1 σ2 σ3 σ4 σ5 σ6 ρ:Type}{body:Code}{g:Nat->σ1->σ2->σ3->σ4->σ5->σ6->Option ρ}{n:Nat}{a1:σ1}{a2:σ2}{a3:σ3}{a4:σ4}{a5:σ5}{a6:σ6}{y:ρ}(J:Jn (a05 body) (σ1×σ2×σ3×σ4×σ5×σ6))(h:g n a1 a2 a3 a4 a5 a6=some y)
  (hr:∀m,(∀{b1 b2 b3 b4 b5 b6},g m b1 b2 b3 b4 b5 b6=some y->Lp env f nr body (J.j fr H (b1,b2,b3,b4,b5,b6)).1 (J.j fr H (b1,b2,b3,b4,b5,b6)).2 K) -> ∀a1 a2 a3 a4 a5 a6,g (m+1) a1 a2 a3 a4 a5 a6=some y->FE (J.j fr H (a1,a2,a3,a4,a5,a6)) fun fr H=>Ev env (E env) f nr body fr H (a7p env f nr body K)) (h0:∀a1 a2 a3 a4 a5 a6,g 0 a1 a2 a3 a4 a5 a6=none:=by intros;rfl) (hn:normal env f nr (a05 body) fr H=some (J.j fr H (a1,a2,a3,a4,a5,a6)):=by exact rfl):Ev env (E env) f nr (.loop body) fr H K :=
 a4z (g:=fun m x=>g m x.1 x.2.1 x.2.2.1 x.2.2.2.1 x.2.2.2.2.1 x.2.2.2.2.2) (s:=(a1,a2,a3,a4,a5,a6)) J h (fun m ih x hx=>hr m (fun{b1 b2 b3 b4 b5 b6} h=>ih (x':=(b1,b2,b3,b4,b5,b6)) h) x.1 x.2.1 x.2.2.1 x.2.2.2.1 x.2.2.2.2.1 x.2.2.2.2.2 hx) (fun x=>h0 x.1 x.2.1 x.2.2.1 x.2.2.2.1 x.2.2.2.2.1 x.2.2.2.2.2) hn
theorem b1d {σ1 σ2 σ3 σ4 σ5 σ6 σ7 ρ:Type}{body:Code}{g:Nat->σ1->σ2->σ3->σ4->σ5->σ6->σ7->Option ρ}{n:Nat}{a1:σ1}{a2:σ2}{a3:σ3}{a4:σ4}{a5:σ5}{a6:σ6}{a7:σ7}{y:ρ}(J:Jn (a05 body) (σ1×σ2×σ3×σ4×σ5×σ6×σ7))(h:g n a1 a2 a3 a4 a5 a6 a7=some y)
  (hr:∀m,(∀{b1 b2 b3 b4 b5 b6 b7},g m b1 b2 b3 b4 b5 b6 b7=some y->Lp env f nr body (J.j fr H (b1,b2,b3,b4,b5,b6,b7)).1 (J.j fr H (b1,b2,b3,b4,b5,b6,b7)).2 K) -> ∀a1 a2 a3 a4 a5 a6 a7,g (m+1) a1 a2 a3 a4 a5 a6 a7=some y->FE (J.j fr H (a1,a2,a3,a4,a5,a6,a7)) fun fr H=>Ev env (E env) f nr body fr H (a7p env f nr body K)) (h0:∀a1 a2 a3 a4 a5 a6 a7,g 0 a1 a2 a3 a4 a5 a6 a7=none:=by intros;rfl) (hn:normal env f nr (a05 body) fr H=some (J.j fr H (a1,a2,a3,a4,a5,a6,a7)):=by exact rfl):Ev env (E env) f nr (.loop body) fr H K :=
 a4z (g:=fun m x=>g m x.1 x.2.1 x.2.2.1 x.2.2.2.1 x.2.2.2.2.1 x.2.2.2.2.2.1 x.2.2.2.2.2.2) (s:=(a1,a2,a3,a4,a5,a6,a7)) J h (fun m ih x hx=>hr m (fun{b1 b2 b3 b4 b5 b6 b7} h=>ih (x':=(b1,b2,b3,b4,b5,b6,b7)) h) x.1 x.2.1 x.2.2.1 x.2.2.2.1 x.2.2.2.2.1 x.2.2.2.2.2.1 x.2.2.2.2.2.2 hx) (fun x=>h0 x.1 x.2.1 x.2.2.1 x.2.2.2.1 x.2.2.2.2.1 x.2.2.2.2.2.1 x.2.2.2.2.2.2) hn
theorem callR_ok {v v4:V}{H3 H4:Hp}{ns:List Nat}(h1:a4C (a01 (K9 ns (newName o)) dep v)=some v4)(h2:a0s (a06 (K9 ns (newName o)) H3 H)=some H4)(h3:a3i H H3 (newName o) ns.length=true)(h4:Os env orc ops rest (X6 o.dst v4 fr) H4 K):CallR env orc ops o rest fr H ns K (.ret v H3):=⟨_,_,h1,h2,h3,h4⟩
theorem c4u {v v4:V}{H3 H4:Hp}{ns:List Nat}(h1:a4C (a01 (K9 ns (newName o)) dep v)=some v4)(h2:a0s (a06 (K9 ns (newName o)) H3 H)=some H4)(h3:a3i H H3 (newName o) ns.length=true)(h4:K (.panic v4,fr,H4)):CallR env orc ops o rest fr H ns K (.pan v H3):=⟨_,_,h1,h2,h3,h4⟩
theorem c5e {v v2:V}(h1:a01 a3O dep v=some v2)(h2:Os env orc ops rest (X6 o.dst v2 fr) H K):c07 env orc ops o rest fr H K (.ret v []):=⟨_,rfl,h1,h2⟩
theorem lookR_ok {v v4:V}{H3:Hp}{ns:List Nat}(h1:a4C (a01 (K9 ns (newName o)) dep v)=some v4)(h2:a0s (a06 (K9 ns (newName o)) H3 H)=some H)(h3:a3i H H3 (newName o) ns.length=true)(h4:Os env orc ops rest (X6 o.dst v4 fr) H K):LookR env orc ops o rest fr H ns K (.ret v H3):=⟨_,h1,h2,h3,h4⟩
theorem fe_ok {j:Fr×Hp}{G:Fr->Hp->Prop}{fr:Fr}{H:Hp}(h1:fF j.1 some=some fr)(h2:fH j.2 some=some H)(h:G fr H):FE j G:=⟨fr,H,h1,h2,h⟩
theorem c4O {id:Nat}{d:Bool}{S sl:List Nat}(ls:Nat->List Nat)(hs:b1Q env f id d=some (S,sl))(h:OsP env orc (ls id) sl ops (a6u ops S) fr H (sepK nr ops (ls id) sl K)):Ev env orc f nr (.region id ops d) fr H K:=c1F _ hs h
theorem kP_nil {L sl:List Nat}(h1:a6O sl fr=some L)(h2:K (.normal,fr,H)):OsP env orc L sl ops [] fr H (sepK nr ops L sl K):=osP_nil ⟨h1,h2⟩
end
attribute [irreducible] CallR c07 LookR FE
theorem osI {env:Env}{orc:Orc}{ops:Array Oper}{l:List Oper}{fr:Fr}{H:Hp}{K:Res->Prop}(h:Os env orc ops l fr H K):Os env orc ops l fr H K:=h
theorem evI {env:Env}{orc:Orc}{f nr:Nat}{c:Code}{fr:Fr}{H:Hp}{K:Res->Prop}(h:Ev env orc f nr c fr H K):Ev env orc f nr c fr H K:=h
theorem opI {env:Env}{orc:Orc}{L sl:List Nat}{ops:Array Oper}{l:List Oper}{fr:Fr}{H:Hp}{K:Res->Prop}(h:OsP env orc L sl ops l fr H K):OsP env orc L sl ops l fr H K:=h
theorem os_nilE {env:Env}{orc:Orc}{f nr:Nat}{ops:Array Oper}{b:Code}{fr:Fr}{H:Hp}{d:Bool}{K:Res->Prop}(h:Ev env orc f nr b fr H K):Os env orc ops [] fr H (regK d (thenK env orc f nr b K)):=G5 h
theorem blk {P:Prop}(x:P:=by
  repeat' first
  |(with_reducible intro(h:_=some _))
  | with_reducible refine AllC.all ?_
  | with_reducible intro _
  |((with_reducible refine osI ?_);first
    | refine oR rfl rfl ?_
    | refine os_nilE ?_
    | refine G5 ?_
    | refine k_call rfl h rfl rfl rfl rfl rfl ?_
    | refine k_call rfl (bindP_b h) rfl rfl rfl rfl rfl ?_
    | refine k_quiet rfl h rfl rfl rfl rfl rfl ?_
    | refine k_look rfl h rfl rfl rfl rfl rfl rfl ?_
    | refine k_idx rfl h rfl ?_
    | refine k_loadA rfl rfl rfl rfl rfl rfl ?_
    | refine k_load0 rfl rfl rfl ?_
    |(refine k_app rfl h rfl rfl rfl (fun _ h=>?_);refine⟨_,rfl,?_⟩)
    |(refine k_appT rfl h rfl rfl (fun _ h=>?_);refine⟨_,rfl,?_⟩)
    |(refine k_appN rfl h rfl (.inl rfl) rfl (fun _ h=>?_);refine⟨_,rfl,?_⟩)
    |(refine k_appN rfl h rfl (.inr rfl) rfl (fun _ h=>?_);refine⟨_,rfl,?_⟩)
    |(refine k_appD rfl h rfl rfl rfl (fun _ h=>?_);refine⟨_,rfl,?_⟩)
    |(refine k_appU rfl h rfl rfl (fun _ h=>?_);refine⟨_,rfl,?_⟩)
    |(refine k_appF rfl h rfl (.inl ⟨rfl,rfl⟩) rfl (fun _ h=>?_);refine⟨_,rfl,?_⟩)
    |(refine k_appF rfl h rfl (.inr ⟨rfl,b0w (Nat.succ_le_succ (Nat.zero_le _))⟩) rfl (fun _ h=>?_);refine⟨_,rfl,?_⟩)
    | refine k_idxS rfl h ?_
    | refine k_cat rfl h ?_
    | refine k_subS rfl h ?_
    | refine k_subL rfl h rfl ?_
    | refine c3Q rfl ?_
    | refine j6 rfl rfl rfl ?_
    | refine b99 rfl rfl rfl ?_
    | refine c3O (m:=[]) (ek:=V.int .i64) (eb:=V.str) (a8Q _) rfl rfl rfl rfl rfl rfl rfl rfl rfl rfl rfl rfl ?_
    | refine c3O (ek:=V.int .i64) (eb:=V.str) (a8Q _) rfl rfl rfl rfl rfl rfl rfl rfl rfl rfl rfl rfl ?_
    | refine c2f rfl rfl rfl ?_
    | refine os_pickT rfl rfl rfl (by assumption) rfl ?_
    | refine os_pickF rfl rfl rfl (by assumption) rfl ?_
    | refine k_guard h rfl rfl rfl (fun e h=>?_) (fun e h=>?_)
    |(refine k_gd h (fun e h=>?_);refine j6 rfl rfl (a2l e rfl) ?_)
    | refine os_panic rfl rfl rfl ?_
    | refine c3P (ek:=V.int .i64) (eb:=V.bool) (d:=false) (a8Q _) rfl rfl rfl rfl rfl rfl rfl rfl rfl rfl rfl ?_
    | refine os_mapU (ek:=V.int .i64) (eb:=V.bool) (a8Q _) rfl rfl rfl rfl rfl rfl rfl rfl rfl rfl rfl rfl ?_
    | refine c3P (ek:=V.int .i64) (eb:=V.str) (d:=[]) (a8Q _) rfl rfl rfl rfl rfl rfl rfl rfl rfl rfl rfl ?_
    | refine os_toStr rfl rfl rfl rfl rfl rfl rfl rfl rfl ?_
    | refine os_ofStr rfl rfl rfl rfl rfl rfl rfl rfl rfl ?_)
  |((with_reducible refine evI ?_);first
    | refine eSG ?_
    | refine k_if rfl h (fun e h=>?_) (fun e h=>?_)
    | refine O0 ?_
    | refine a3C ?_
    | refine I5 ?_
    | refine V7 ?_
    | refine o7 ?_
    | refine F8 ?_
    | refine Z6 rfl rfl ?_
    | refine a0D rfl rfl ?_
    | refine Z6 rfl (by assumption) ?_
    | refine a0D rfl (by assumption) ?_
    | refine c4O ls rfl ?_
    | refine a7G jn1 h ?_ ?_|refine a5c kr jn1 h ?_ ?_|refine a5d kr jn1 h ?_ ?_
     | refine a7G jn2 h ?_ ?_|refine a5c kr jn2 h ?_ ?_|refine a5d kr jn2 h ?_ ?_
     | refine a7G jn3 h ?_ ?_|refine a5c kr jn3 h ?_ ?_|refine a5d kr jn3 h ?_ ?_
     | refine a7G jn4 h ?_ ?_|refine a5c kr jn4 h ?_ ?_|refine a5d kr jn4 h ?_ ?_
     | refine a7G jn5 h ?_ ?_|refine a5c kr jn5 h ?_ ?_|refine a5d kr jn5 h ?_ ?_
     | refine a7G jn6 h ?_ ?_|refine a5c kr jn6 h ?_ ?_|refine a5d kr jn6 h ?_ ?_
     | refine a7G jn7 h ?_ ?_|refine a5c kr jn7 h ?_ ?_|refine a5d kr jn7 h ?_ ?_
     | refine a7G jn8 h ?_ ?_|refine a5c kr jn8 h ?_ ?_|refine a5d kr jn8 h ?_ ?_
     | refine a7G jn9 h ?_ ?_|refine a5c kr jn9 h ?_ ?_|refine a5d kr jn9 h ?_ ?_
     | refine a7G jn10 h ?_ ?_|refine a5c kr jn10 h ?_ ?_|refine a5d kr jn10 h ?_ ?_
     | refine a7G jn11 h ?_ ?_|refine a5c kr jn11 h ?_ ?_|refine a5d kr jn11 h ?_ ?_
     | refine a7G jn12 h ?_ ?_|refine a5c kr jn12 h ?_ ?_|refine a5d kr jn12 h ?_ ?_
     | refine a7G jn13 h ?_ ?_|refine a5c kr jn13 h ?_ ?_|refine a5d kr jn13 h ?_ ?_
     | refine a7G jn14 h ?_ ?_|refine a5c kr jn14 h ?_ ?_|refine a5d kr jn14 h ?_ ?_
    | refine a4z jl1 h (fun m ih=>?_)
     | refine b08 jl1 h (fun m ih=>?_)
     | refine b09 jl1 h (fun m ih=>?_)
     | refine b1a jl1 h (fun m ih=>?_)
     | refine b1b jl1 h (fun m ih=>?_)
     | refine b1c jl1 h (fun m ih=>?_)
     | refine b1d jl1 h (fun m ih=>?_)
     | refine a4z jl2 h (fun m ih=>?_)
     | refine b08 jl2 h (fun m ih=>?_)
     | refine b09 jl2 h (fun m ih=>?_)
     | refine b1a jl2 h (fun m ih=>?_)
     | refine b1b jl2 h (fun m ih=>?_)
     | refine b1c jl2 h (fun m ih=>?_)
     | refine b1d jl2 h (fun m ih=>?_)
     | refine a4z jl3 h (fun m ih=>?_)
     | refine b08 jl3 h (fun m ih=>?_)
     | refine b09 jl3 h (fun m ih=>?_)
     | refine b1a jl3 h (fun m ih=>?_)
     | refine b1b jl3 h (fun m ih=>?_)
     | refine b1c jl3 h (fun m ih=>?_)
     | refine b1d jl3 h (fun m ih=>?_)
     | refine a4z jl4 h (fun m ih=>?_)
     | refine b08 jl4 h (fun m ih=>?_)
     | refine b09 jl4 h (fun m ih=>?_)
     | refine b1a jl4 h (fun m ih=>?_)
     | refine b1b jl4 h (fun m ih=>?_)
     | refine b1c jl4 h (fun m ih=>?_)
     | refine b1d jl4 h (fun m ih=>?_)
     | refine a4z jl5 h (fun m ih=>?_)
     | refine b08 jl5 h (fun m ih=>?_)
     | refine b09 jl5 h (fun m ih=>?_)
     | refine b1a jl5 h (fun m ih=>?_)
     | refine b1b jl5 h (fun m ih=>?_)
     | refine b1c jl5 h (fun m ih=>?_)
     | refine b1d jl5 h (fun m ih=>?_)
     | refine a4z jl6 h (fun m ih=>?_)
     | refine b08 jl6 h (fun m ih=>?_)
     | refine b09 jl6 h (fun m ih=>?_)
     | refine b1a jl6 h (fun m ih=>?_)
     | refine b1b jl6 h (fun m ih=>?_)
     | refine b1c jl6 h (fun m ih=>?_)
     | refine b1d jl6 h (fun m ih=>?_)
    )
  |((with_reducible refine opI ?_);first
    | refine kP_nil rfl ?_
    | refine b97 rfl ?_
    | refine osP_cons rfl ?_)
  | refine callR_ok rfl rfl rfl ?_
  | refine c4u rfl rfl rfl ?_
  | refine c5e rfl ?_
  | refine lookR_ok rfl rfl rfl ?_
  | refine fe_ok rfl rfl ?_
  |((fail_if_success (with_reducible refine evI ?_));refine evI ?_)
  |((fail_if_success (with_reducible refine opI ?_));refine opI ?_)
  |((fail_if_success (with_reducible refine osI ?_));refine osI ?_)
  |(cases h;first
    | exact⟨_,_,_,rfl,rfl,rfl⟩
    | exact⟨_,_,rfl,rfl⟩
    | exact rfl
    | exact⟨_,rfl,rfl⟩
    | exact⟨_,rfl,_,_,_,rfl,rfl,rfl⟩
    | exact⟨_,rfl,_,_,rfl,rfl⟩
    | exact⟨rfl,rfl,_,_,rfl,_,_,rfl,rfl⟩
    | exact⟨rfl,rfl,_,_,rfl,_,rfl,_,_,rfl,rfl⟩)
  | exact⟨_,_,rfl,ih h⟩
  | exact trivial
  | refine And.intro ?_ ?_):P:=x
end Go.Vm
namespace Go.Proofs.YtjhfloacokgdiaaGreatDoor
open Go Go.Vm
structure Flt where
 code:Int
 at_:Int
def b9l (x:Flt):List V:=[.int .i64 x.code,.int .i64 x.at_]
def b1I:List Flt->List V
 | []=>[]
 | x::r=>.int .i64 x.code :: .int .i64 x.at_::b1I r
theorem c1x:a2b 2 b9l b1I:=⟨fun _=>rfl,rfl,fun _ _=>rfl⟩
instance:b2z b1I 2 b9l:=⟨c1x⟩
instance:b1U Flt b1I 2 b9l:=⟨c1x⟩
structure Typ where
 kind:Int
 name:Str
 n:Int
 args:List Typ
mutual
def Typ.sub:Typ->List V
 |⟨_,_,_,a3⟩=>F3 a3
def F3:List Typ->List V
 | []=>[]
 | x::r=>.int .i64 x.kind :: .str x.name :: .int .i64 x.n :: .slice .sealed (List.length x.args) (x.sub)::F3 r
end
def b9m (x:Typ):List V:=[.int .i64 x.kind,.str x.name,.int .i64 x.n,.slice .sealed (List.length x.args) (F3 x.args)]
theorem c1A:a2b 4 b9m F3:=⟨fun _=>rfl,rfl,fun x r=>by cases x;rfl⟩
instance:b2z F3 4 b9m:=⟨c1A⟩
instance:b1U Typ F3 4 b9m:=⟨c1A⟩
structure Nod where
 op:Int
 s:Str
 n:Int
 t:Typ
 ts:List Typ
 l:List Nod
 at_:Int
mutual
def Nod.sub:Nod->List V
 |⟨_,_,_,_,_,a5,_⟩=>H6 a5
def H6:List Nod->List V
 | []=>[]
 | x::r=>.int .i64 x.op :: .str x.s :: .int .i64 x.n :: .int .i64 x.t.kind :: .str x.t.name :: .int .i64 x.t.n :: .slice .sealed (List.length x.t.args) (F3 x.t.args) :: .slice .sealed (List.length x.ts) (F3 x.ts) :: .slice .sealed (List.length x.l) (x.sub) :: .int .i64 x.at_::H6 r
end
def a7z (x:Nod):List V:=[.int .i64 x.op,.str x.s,.int .i64 x.n,.int .i64 x.t.kind,.str x.t.name,.int .i64 x.t.n,.slice .sealed (List.length x.t.args) (F3 x.t.args),.slice .sealed (List.length x.ts) (F3 x.ts),.slice .sealed (List.length x.l) (H6 x.l),.int .i64 x.at_]
theorem c1y:a2b 10 a7z H6:=⟨fun _=>rfl,rfl,fun x r=>by cases x;rfl⟩
instance:b2z H6 10 a7z:=⟨c1y⟩
instance:b1U Nod H6 10 a7z:=⟨c1y⟩
structure Tok where
 kind:Int
 text:Str
 at_:Int
 len:Int
def c1Tok (x:Tok):List V:=[.int .i64 x.kind,.str x.text,.int .i64 x.at_,.int .i64 x.len]
def F6:List Tok->List V
 | []=>[]
 | x::r=>.int .i64 x.kind :: .str x.text :: .int .i64 x.at_ :: .int .i64 x.len::F6 r
theorem c1z:a2b 4 c1Tok F6:=⟨fun _=>rfl,rfl,fun _ _=>rfl⟩
instance:b2z F6 4 c1Tok:=⟨c1z⟩
instance:b1U Tok F6 4 c1Tok:=⟨c1z⟩
structure l7 where
 fault:Flt
def a8U (x:l7):List V:=[.int .i64 x.fault.code,.int .i64 x.fault.at_]
def a6G:List l7->List V
 | []=>[]
 | x::r=>.int .i64 x.fault.code :: .int .i64 x.fault.at_::a6G r
theorem b1J:a2b 2 a8U a6G:=⟨fun _=>rfl,rfl,fun _ _=>rfl⟩
instance:b2z a6G 2 a8U:=⟨b1J⟩
instance:b1U l7 a6G 2 a8U:=⟨b1J⟩
structure E8 where
 ops:List Str
 once:Bool
def a7T (x:E8):List V:=[.slice .sealed (List.length x.ops) (clS x.ops),.bool x.once]
def a02:List E8->List V
 | []=>[]
 | x::r=>.slice .sealed (List.length x.ops) (clS x.ops) :: .bool x.once::a02 r
theorem b0k:a2b 2 a7T a02:=⟨fun _=>rfl,rfl,fun _ _=>rfl⟩
instance:b2z a02 2 a7T:=⟨b0k⟩
instance:b1U E8 a02 2 a7T:=⟨b0k⟩
instance:AllC Typ (fun P=>∀a0 a1 a2 a3,P ⟨a0,a1,a2,a3⟩):=⟨fun h x=>by obtain⟨a0,a1,a2,a3⟩:=x;exact h a0 a1 a2 a3⟩
instance:AllC Nod (fun P=>∀a0 a1 a2 a3 a4 a5 a6 a7 a8 a9,P ⟨a0,a1,a2,⟨a3,a4,a5,a6⟩,a7,a8,a9⟩):=⟨fun h x=>by obtain⟨a0,a1,a2,⟨a3,a4,a5,a6⟩,a7,a8,a9⟩:=x;exact h a0 a1 a2 a3 a4 a5 a6 a7 a8 a9⟩
end Go.Proofs.YtjhfloacokgdiaaGreatDoor
namespace Go.Vm
def eqV1:V->V->Bool
 | .bool a,.bool b=>decide (a=b)
 | .int j a,.int k b=>decide (j=k)&&decide (a=b)
 | .str a,.str b=>decide (a=b)
 | .nilptr,.nilptr=>true
 | .slice .nil 0 [],.slice .nil 0 []=>true
 | .nilFunc,.nilFunc=>true
 | .nilIface,.nilIface=>true
 | .opq,.opq=>true
 | _,_=>false
theorem eqV1_ok {a b:V}(h:eqV1 a b=true):a=b:=by
 unfold eqV1 at h
 split at h<;>first|rfl|cases h |(simp at h;simp[h])
def eqVs1:List V->List V->Bool
 | [],[]=>true
 | a::r,b::s=>eqV1 a b&&eqVs1 r s
 | _,_=>false
theorem b9D:∀{a b:List V},eqVs1 a b=true->a=b
 | [],[],_=>rfl
 | a::r,b::s,h=>by
  simp only[eqVs1,Bool.and_eq_true]at h
  rw[eqV1_ok h.1,b9D h.2]
 | [],_::_,h=>by cases h
 | _::_,[],h=>by cases h
def isAggV:Value->Bool
 | .agg _=>true
 | _=>false
def infoB (P:Program)(t:Nat)(y:Ty):Bool :=
 match P.info? t with
 | none=>false
 | some i=>match i.zero with
  | none=>false
  | some z=>decide (i.size=y.size)&&decide (i.bytes=y.bytes)&&(match a0P a9c z.cells.toList with|some l=>eqVs1 l y.zero|none=>false)&&decide (z.cells.size=y.size)&&decide (isAggV z=a0O y.sh)
def shB (P:Program)(t:Nat):Sh->Bool
 | .bool=>match P.underlying t with|some .bool=>true|_=>false
 | .string=>match P.underlying t with|some .string=>true|_=>false
 | .int k=>match P.underlying t with|some (.int j)=>decide (j=k)|_=>false
 | .ptr e=>match P.underlying t with|some (.pointer j)=>decide (j=e)|_=>false
 | .slice e=>match P.underlying t with|some (.slice j)=>decide (j=e)|_=>false
 | .array n e=>match P.underlying t with|some (.array m j)=>decide (m=n)&&decide (j=e)|_=>false
 | .struct fs=>match P.underlying t with
  | some (.struct l)=>!P.stoodInHeld t&&decide ((l.toList.map fun f=>(f.type,f.offset))=fs)&&l.toList.all (fun f=>decide (f.name ≠ "_"))&&l.toList.all (fun f=>(P.info? f.type).isSome)
  | _=>false
 | .iface=>match P.underlying t with|some (.interface _)=>true|_=>false
 | .func=>match P.underlying t with|some (.func ..)=>true|_=>false
 | .other=>(P.underlying t).isSome
 | .map k e=>match P.underlying t with|some (.map i j)=>decide (i=k)&&decide (j=e)|_=>false
 | .blk fs=>match P.underlying t with
  | some (.struct l)=>decide ((l.toList.map fun f=>(f.type,f.offset))=fs)&&l.toList.all (fun f=>(P.info? f.type).isSome)
  | _=>false
def c0B (P:Program)(t:Nat)(s:Sh):Bool :=
 match P.underlying t with
 | none=>false
 | some d=>(a0O s ||(match d with | .struct _ | .array ..=>false|_=>true))&&(match s,d with | .iface,_=>true|_,.interface _=>false|_,_=>true) &&
  (match s with | .iface | .array .. | .blk _=>true|_=>!P.eqGuardType P.depth t)
def tyB (P:Program)(t:Nat)(y:Ty):Bool:=infoB P t y&&shB P t y.sh&&c0B P t y.sh
theorem b9q {z:Value}(h:isAggV z=false):z.cells = #[z]:=by cases z<;>first|rfl|cases h
theorem tyB_ok {P:Program}{t:Nat}{y:Ty}(h:tyB P t y=true):TyOk P t y:=by
 simp only[tyB,Bool.and_eq_true]at h
 obtain⟨⟨h1,h2⟩,h3⟩:=h
 refine⟨?_,?_,?_,?_,?_,?_⟩
 ·unfold infoB at h1
  split at h1
  ·cases h1
  ·rename_i i hi
   split at h1
   ·cases h1
   ·rename_i z hz
    simp only[Bool.and_eq_true,decide_eq_true_eq]at h1
    obtain⟨⟨⟨⟨g1,g2⟩,g3⟩,g4⟩,g5⟩:=h1
    split at g3
    ·rename_i l hl
     have:=b9D g3
     subst this
     refine⟨i,z,hi,g1,g2,hz,hl,g4,fun ha=>?_,fun ha=>b9q (g5.trans ha)⟩
     rw[ha]at g5
     cases z<;>first|exact⟨_,rfl⟩|cases g5
    ·cases g3
 ·unfold shB at h2
  split at h2<;>rename_i hs<;>simp only[hs]
  ·split at h2<;>first|assumption|cases h2
  ·split at h2<;>first|assumption|cases h2
  ·split at h2
   ·rename_i hu;simp only[decide_eq_true_eq]at h2;subst h2;exact hu
   ·cases h2
  ·split at h2
   ·rename_i hu;simp only[decide_eq_true_eq]at h2;subst h2;exact hu
   ·cases h2
  ·split at h2
   ·rename_i hu;simp only[decide_eq_true_eq]at h2;subst h2;exact hu
   ·cases h2
  ·split at h2
   ·rename_i hu;simp only[Bool.and_eq_true,decide_eq_true_eq]at h2;obtain⟨rfl,rfl⟩:=h2;exact hu
   ·cases h2
  ·split at h2
   ·rename_i l hu
    simp only[Bool.and_eq_true,Bool.not_eq_true',decide_eq_true_eq]at h2
    obtain⟨⟨⟨g1,g2⟩,g3⟩,g4⟩:=h2
    exact⟨g1,l,hu,g2,by simpa using g3,g4⟩
   ·cases h2
  ·split at h2
   ·rename_i ms hu;exact⟨ms,hu⟩
   ·cases h2
  ·split at h2
   ·rename_i a b c hu;exact⟨a,b,c,hu⟩
   ·cases h2
  ·split at h2
   ·rename_i hu;simp only[Bool.and_eq_true,decide_eq_true_eq]at h2;obtain⟨rfl,rfl⟩:=h2;exact hu
   ·cases h2
  ·split at h2
   ·rename_i l hu
    simp only[Bool.and_eq_true,decide_eq_true_eq]at h2
    exact⟨l,hu,h2.1,h2.2⟩
   ·cases h2
 ·intro ha d hd
  unfold c0B at h3
  rw[hd]at h3
  simp only[ha,Bool.false_or,Bool.and_eq_true]at h3
  obtain⟨⟨g,_⟩,_⟩:=h3
  constructor
  ·rintro fs rfl;cases g
  ·rintro n e rfl;cases g
 ·unfold c0B at h3
  split at h3
  ·cases h3
  ·rename_i d hd;exact⟨d,hd⟩
 ·intro hs ms hu
  unfold c0B at h3
  rw[hu]at h3
  simp only[Bool.and_eq_true]at h3
  obtain⟨⟨_,g⟩,_⟩:=h3
  cases hy:y.sh<;>rw[hy]at g hs<;>first|exact hs|cases g
 ·intro hs
  unfold c0B at h3
  split at h3
  ·cases h3
  ·simp only[Bool.and_eq_true]at h3
   obtain⟨_,g⟩:=h3
   cases hy:y.sh<;>rw[hy]at g hs<;>first|exact hs.elim|simpa using g
def tysB (P:Program)(T:List (Nat×Ty)):Bool:=T.all fun p=>tyB P p.1 p.2
theorem a7R {P:Program}:∀{T:List (Nat×Ty)},tysB P T=true->TOk P T
 | [],_,t,y,h=>by cases h
 |(s,z)::r,hb,t,y,h=>by
  simp only[tysB,List.all_cons,Bool.and_eq_true]at hb
  simp only[N8]at h
  split at h
  ·rename_i hs
   cases h
   have:=Nat.eq_of_beq_eq_true hs
   subst this
   exact tyB_ok hb.1
  ·exact a7R hb.2 t y h
def b0i (env:Env)(l:List Nat):Bool:=l.all fun g=>match env.P.funcs[g]? with
 | none=>true
 | some fn=>!(fn.name == "runtime.NumGoroutine")&&match fn.body with
  | none=>true
  | some c=>a5z env g fn.ntmps c
theorem b9J {k:Nat}:∀{l:List Nat},has k l=true->k∈l
 | [],h=>by cases h
 | a::r,h=>by
  simp only[has]at h
  split at h
  ·rename_i hb;rw[Nat.eq_of_beq_eq_true hb];exact List.mem_cons_self ..
  ·exact List.mem_cons_of_mem _ (b9J h)
theorem a6R {env:Env} {l:List Nat} (hok:∀g,env.ok g=true->has g l=true) (h:b0i env l=true):∀g fn c,env.ok g=true->env.P.funcs[g]? = some fn->fn.body=some c->a5z env g fn.ntmps c=true/\(fn.name == "runtime.NumGoroutine")=false:=by
 intro g fn c h1 h2 h3
 rw[b0i,List.all_eq_true]at h
 have:=h g (b9J (hok g h1))
 rw[h2]at this
 simp only[h3,Bool.and_eq_true,Bool.not_eq_true']at this
 exact⟨this.2,this.1⟩
end Go.Vm
namespace Go.Proofs.YtjhfloacokgdiaaGreatDoor.Sc
open Go Go.Vm
def T:List (Nat×Ty):=[
 (3,⟨.int .i64,1,8,[.i 0]⟩),
 (4,⟨.bool,1,1,[.bool false]⟩),
 (5,⟨.int .u8,1,1,[.int .u8 0]⟩),
 (9,⟨.string,1,16,[.str []]⟩),
 (36,⟨.int .i64,1,8,[.i 0]⟩),
 (38,⟨.struct [(36,0),(3,1)],2,16,[.i 0,.i 0]⟩),
 (41,⟨.slice 83,1,24,[.slice .nil 0 []]⟩),
 (58,⟨.slice 5,1,24,[.slice .nil 0 []]⟩),
 (62,⟨.slice 9,1,24,[.slice .nil 0 []]⟩),
 (76,⟨.ptr 80,1,8,[.nilptr]⟩),
 (78,⟨.struct [(9,0),(3,1)],2,24,[.str [],.i 0]⟩),
 (80,⟨.struct [(78,0),(41,2),(38,3)],5,64,[.str [],.i 0,.slice .nil 0 [],.i 0,.i 0]⟩),
 (83,⟨.struct [(3,0),(9,1),(3,2),(3,3)],4,40,[.i 0,.str [],.i 0,.i 0]⟩),
 (108,⟨.func,1,8,[.nilFunc]⟩),
 (131,⟨.ptr 78,1,8,[.nilptr]⟩),
 (134,⟨.array 32 9,32,512,[.str [],.str [],.str [],.str [],.str [],.str [],.str [],.str [],.str [],.str [],.str [],.str [],.str [],.str [],.str [],.str [],.str [],.str [],.str [],.str [],.str [],.str [],.str [],.str [],.str [],.str [],.str [],.str [],.str [],.str [],.str [],.str []]⟩),
 (136,⟨.array 27 9,27,432,[.str [],.str [],.str [],.str [],.str [],.str [],.str [],.str [],.str [],.str [],.str [],.str [],.str [],.str [],.str [],.str [],.str [],.str [],.str [],.str [],.str [],.str [],.str [],.str [],.str [],.str [],.str []]⟩)]
def keep:Nat->Nat->List Nat
 | 38,2=>[0,1,2,7]
 | 77,0=>[0]
 | 81,5=>[0,1,5,6,7,8]
 | 86,3=>[0,3,4]
 | 122,2=>[0,1,5]
 | 126,2=>[0,1,5,6]
 | _,_=>[]
def okL:List Nat:=[16,38,125,127,77,78,79,80,81,82,83,84,85,86,87,120,121,122,123,124,126]
def a9t:List Nat:=[16,125,127,82,84,120,123,124]
noncomputable def env:Env:={P:=Tryz.prog,T:=T,keep:=keep,byref:=fun f s=>match f,s with   | _,_=>none,meth:=fun _ _=>none,tags:=fun _=>false,argTags:=fun _=>false,quiet:=fun g=>has g a9t,loose:=fun _=>false,intr:=fun _=>none,ok:=fun g=>has g okL}
theorem tys:tysB Tryz.prog T=true:=by kernel_rfl
theorem codes:b0i env okL=true:=by kernel_rfl
theorem mixed:Tryz.prog.follows .mixedOrders=true:=by kernel_rfl
theorem b5B:a6X env:=by
 intro _ _ _ h
 cases h
theorem b47:a6V env:=⟨b5B,a7R tys,mixed,a6R (fun _ h=>h) codes,(fun _ _ h=>by cases h),(fun _ _ _ h=>by cases h)⟩
end Go.Proofs.YtjhfloacokgdiaaGreatDoor.Sc
namespace Go.Proofs.YtjhfloacokgdiaaGreatDoor.Sc
open Go Go.Vm
def b44 (n:Int):Bool:=leB 48 n&&leB n 57
theorem c41I (n:Int):E env (.call 82 [.int .u8 n]) []=some (.ret (.bool (b44 n)) []):=by
 refine a0t rfl Tryz.func82 rfl rfl ?_
 refine eSG (oB 1 rfl (eSG (oA 3 rfl ?_)))
 refine a0b rfl rfl rfl (fun h1=>?_) (fun h1=>?_)
 ·refine oB 4 rfl ?_
  exact I5 ⟨_,rfl,by show some (V.bool _,_)=some (V.bool _,_);simp[b44, *]⟩
 ·refine oB 4 rfl ?_
  exact I5 ⟨_,rfl,by show some (V.bool _,_)=some (V.bool _,_);simp[b44, *]⟩
def U8 (b:UInt8):Bool:=decide (48<=b.toNat/\b.toNat<=57)
theorem c4C (b:UInt8):b44 (b.toNat:Nat)=U8 b:=by
 simp only[b44,U8,leB,eqB];rw[Bool.eq_iff_iff];simp;omega
theorem c41 (b:UInt8):E env (.call 82 [.int .u8 (b.toNat:Nat)]) []=some (.ret (.bool (U8 b)) []):=by rw[<-c4C];exact c41I _
def a5O (n:Int):Bool:=(leB 97 n&&leB n 122) ||(leB 65 n&&leB n 90)||eqB n 95
theorem c43I (n:Int):E env (.call 84 [.int .u8 n]) []=some (.ret (.bool (a5O n)) []):=by
 refine a0t rfl Tryz.func84 rfl rfl ?_
 refine eSG (oB 1 rfl (eSG (oA 3 rfl ?_)))
 refine a0b rfl rfl rfl (fun h1=>?_) (fun h1=>?_)
 ·refine oA 4 rfl ?_
  refine a0b rfl rfl rfl (fun h2=>?_) (fun h2=>?_)
  ·refine oB 12 rfl ?_
   exact I5 ⟨_,rfl,by show some (V.bool _,_)=some (V.bool _,_);simp[a5O, *]⟩
  ·refine oA 3 rfl ?_
   refine a0b rfl rfl rfl (fun h3=>?_) (fun h3=>?_)
   ·refine oA 5 rfl ?_
    refine a0b rfl rfl rfl (fun h4=>?_) (fun h4=>?_)
    ·refine oB 4 rfl ?_
     exact I5 ⟨_,rfl,by show some (V.bool _,_)=some (V.bool _,_);simp[a5O, *]⟩
    ·refine oB 4 rfl ?_
     exact I5 ⟨_,rfl,by show some (V.bool _,_)=some (V.bool _,_);simp[a5O, *]⟩
   ·refine oB 9 rfl ?_
    exact I5 ⟨_,rfl,by show some (V.bool _,_)=some (V.bool _,_);simp[a5O, *]⟩
 ·refine oA 7 rfl ?_
  refine a0b rfl rfl rfl (fun h5=>?_) (fun h5=>?_)
  ·refine oA 5 rfl ?_
   refine a0b rfl rfl rfl (fun h6=>?_) (fun h6=>?_)
   ·refine oB 4 rfl ?_
    exact I5 ⟨_,rfl,by show some (V.bool _,_)=some (V.bool _,_);simp[a5O, *]⟩
   ·refine oB 4 rfl ?_
    exact I5 ⟨_,rfl,by show some (V.bool _,_)=some (V.bool _,_);simp[a5O, *]⟩
  ·refine oB 9 rfl ?_
   exact I5 ⟨_,rfl,by show some (V.bool _,_)=some (V.bool _,_);simp[a5O, *]⟩
def a0I (b:UInt8):Bool:=decide ((97<=b.toNat/\b.toNat<=122)∨(65<=b.toNat/\b.toNat<=90)∨b.toNat=95)
theorem c1R (b:UInt8):a5O (b.toNat:Nat)=a0I b:=by
 simp only[a5O,a0I,leB,eqB];rw[Bool.eq_iff_iff];simp;omega
theorem c43 (b:UInt8):E env (.call 84 [.int .u8 (b.toNat:Nat)]) []=some (.ret (.bool (a0I b)) []):=by rw[<-c1R];exact c43I _
def b1W (n:Int):Bool:=eqB n 9||eqB n 10||eqB n 13||eqB n 32
theorem c61I (n:Int):E env (.call 120 [.int .u8 n]) []=some (.ret (.bool (b1W n)) []):=by
 refine a0t rfl Tryz.func120 rfl rfl ?_
 refine eSG (oB 1 rfl (eSG (oA 3 rfl ?_)))
 refine a0b rfl rfl rfl (fun h1=>?_) (fun h1=>?_)
 ·refine oB 12 rfl ?_
  exact I5 ⟨_,rfl,by show some (V.bool _,_)=some (V.bool _,_);simp[b1W, *]⟩
 ·refine oA 4 rfl ?_
  refine a0b rfl rfl rfl (fun h2=>?_) (fun h2=>?_)
  ·refine oB 8 rfl ?_
   exact I5 ⟨_,rfl,by show some (V.bool _,_)=some (V.bool _,_);simp[b1W, *]⟩
  ·refine oA 4 rfl ?_
   refine a0b rfl rfl rfl (fun h3=>?_) (fun h3=>?_)
   ·refine oB 4 rfl ?_
    exact I5 ⟨_,rfl,by show some (V.bool _,_)=some (V.bool _,_);simp[b1W, *]⟩
   ·refine oB 4 rfl ?_
    exact I5 ⟨_,rfl,by show some (V.bool _,_)=some (V.bool _,_);simp[b1W, *]⟩
def a4Y (b:UInt8):Bool:=decide (b.toNat=9∨b.toNat=10∨b.toNat=13∨b.toNat=32)
theorem c4s (b:UInt8):b1W (b.toNat:Nat)=a4Y b:=by
 simp only[b1W,a4Y,leB,eqB];rw[Bool.eq_iff_iff];simp;omega
theorem c61 (b:UInt8):E env (.call 120 [.int .u8 (b.toNat:Nat)]) []=some (.ret (.bool (a4Y b)) []):=by rw[<-c4s];exact c61I _
def nlI (n:Int):Bool:=!eqB n 10
theorem c64I (n:Int):E env (.call 123 [.int .u8 n]) []=some (.ret (.bool (nlI n)) []):=by
 refine a0t rfl Tryz.func123 rfl rfl ?_
 refine eSG (oB 1 rfl (eSG (oB 3 rfl ?_)))
 exact I5 ⟨_,rfl,by show some (V.bool _,_)=some (V.bool _,_);simp[nlI, *]⟩
def nlB (b:UInt8):Bool:=decide (b.toNat≠10)
theorem nlB_eq (b:UInt8):nlI (b.toNat:Nat)=nlB b:=by
 simp only[nlI,nlB,leB,eqB];rw[Bool.eq_iff_iff];simp;omega
theorem c64 (b:UInt8):E env (.call 123 [.int .u8 (b.toNat:Nat)]) []=some (.ret (.bool (nlB b)) []):=by rw[<-nlB_eq];exact c64I _
def a19 (b:UInt8):Bool:=a0I b||U8 b
theorem c65 (b:UInt8):E env (.call 124 [.int .u8 (b.toNat:Nat)]) []=some (.ret (.bool (a19 b)) []):=by
 refine a0t rfl Tryz.func124 rfl rfl ?_
 refine eSG (oB 1 rfl (eSG (oA 1 rfl ?_)))
 refine a1C rfl rfl rfl rfl rfl (c43 ..) rfl ?_
 refine oA 1 rfl ?_
 refine a0b rfl rfl rfl (fun h1=>?_) (fun h1=>?_)
 ·refine oB 4 rfl ?_
  exact I5 ⟨_,rfl,by show some (V.bool _,_)=some (V.bool _,_);simp[a19, *]⟩
 ·refine oA 1 rfl ?_
  refine a1C rfl rfl rfl rfl rfl (c41 ..) rfl ?_
  refine oB 2 rfl ?_
  exact I5 ⟨_,rfl,by show some (V.bool _,_)=some (V.bool _,_);simp[a19, *]⟩
end Go.Proofs.YtjhfloacokgdiaaGreatDoor.Sc
namespace Go.Proofs.YtjhfloacokgdiaaGreatDoor.Sc
open Go Go.Vm
def scH (s:List UInt8)(i n:Nat)(tc:List V)(c a:Int)(e:Nat):Hp:=[(0,.row [.str s,.i i,.slice (.tag 1) n tc,.i c,.i a]),(1,.tip e n)]
def a1M (s:List UInt8)(j:Nat):Int:=((s.getD j 0).toNat:Nat)
section
variable (s:List UInt8) (i n:Nat) (tc:List V) (c a:Int) (e:Nat)
theorem c37:E env (.call 78 [.ptr 0 0]) (scH s i n tc c a e)=some (.ret (.bool (leB s.length i)) (scH s i n tc c a e)):=by
 refine a0t rfl Tryz.func78 rfl rfl ?_
 refine eSG (oB 1 rfl (eSG (oB 11 rfl ?_)))
 exact I5 ⟨_,rfl,rfl⟩
theorem c38 (k x:Int):E env (.call 79 [.ptr 0 0,.i k,.i x]) (scH s i n tc c a e)=some (.ret (.bool false) (scH s i n tc k x e)):=by
 refine a0t rfl Tryz.func79 rfl rfl ?_
 refine eSG (oB 1 rfl (eSG (oA 3 rfl ?_)))
 refine oD ?_
 refine oB 3 rfl (eSG (oB 1 rfl ?_))
 exact I5 ⟨_,rfl,rfl⟩
theorem c39:E env (.call 80 [.ptr 0 0]) (scH s i n tc c a e)=some (.ret (.bool (!leB 3000 n)) (match leB 3000 n with|true=>scH s i n tc 2 i e|false=>scH s i n tc c a e)):=by
 refine a0t rfl Tryz.func80 rfl rfl ?_
 refine eSG (oB 1 rfl (F8 (eSG (oB 6 rfl ?_))))
 refine Z9 rfl (fun h1=>?_) (fun h1=>?_)
 ·refine eSG (oA 6 rfl ?_)
  refine oV (c38 ..) ?_
  refine oB 1 rfl ?_
  exact I5 ⟨_,rfl,by rw[h1];rfl⟩
 ·refine O0 (eSG (oB 1 rfl ?_))
  exact I5 ⟨_,rfl,by rw[h1];rfl⟩
theorem c62 (k:Nat)(hk:i+k<9223372036854775808):E env (.call 121 [.ptr 0 0,.i k]) (scH s i n tc c a e)=some (.ret (.int .u8 (a1M s (i+k))) (scH s i n tc c a e)):=by
 refine a0t rfl Tryz.func121 rfl rfl ?_
 refine eSG (oB 1 rfl (F8 (eSG (oA 5 rfl ?_))))
 refine j6 rfl rfl (addN (by omega)) ?_
 refine oB 6 rfl ?_
 refine Z9 rfl (fun h1=>?_) (fun h1=>?_)
 ·rw[ltN,decide_eq_true_eq]at h1
  refine eSG (oA 9 rfl ?_)
  refine j6 rfl rfl (addN (by omega)) ?_
  refine j6 rfl rfl (a2l (a1N (by omega)) rfl) ?_
  refine oB 1 rfl ?_
  exact I5 ⟨_,rfl,rfl⟩
 ·rw[ltN,decide_eq_false_iff_not]at h1
  have:a1M s (i+k)=0:=by simp only[a1M];rw[List.getD_eq_getElem?_getD,List.getElem?_eq_none (by omega)];rfl
  rw[this]
  refine O0 (eSG (oB 1 rfl ?_))
  exact I5 ⟨_,rfl,rfl⟩
theorem c46 (k:Int)(t:List UInt8)(f:Nat)(hf:f<=i)(hi:i<9223372036854775808)(he:e=0∨e=4)(hn:n<=100000)(htc:tc.length=n*4) :
  E env (.call 87 [.ptr 0 0,.i k,.str t,.i f]) (scH s i n tc c a e)=some (.ret (.tuple []) (scH s i (n+1) (tc++[.i k,.str t,.i f,.i ((i-f:Nat):Int)]) c a 4)):=by
 refine a0t rfl Tryz.func87 rfl rfl ?_
 refine o7 (oA 14 rfl ?_)
 refine j6 rfl rfl (subN (by omega) (by omega)) ?_
 refine oD ?_
 refine oA 1 rfl ?_
 refine a6T rfl rfl rfl rfl rfl rfl rfl rfl rfl rfl rfl (b3v (a2W rfl) rfl) rfl rfl he rfl htc.symm (by show(n+1)*41<=_;omega) rfl rfl rfl ?_
 refine oB 3 rfl ?_
 exact⟨_,rfl,rfl⟩
end
end Go.Proofs.YtjhfloacokgdiaaGreatDoor.Sc
namespace Go.Proofs.YtjhfloacokgdiaaGreatDoor.Sc
open Go Go.Vm
def a0K (p:UInt8->Bool)(s:List UInt8)(i:Nat):Nat:=i+((s.drop i).takeWhile p).length
theorem a2J {s:List UInt8}{i:Nat}(h:i<s.length):s.drop i=s.getD i 0::s.drop (i+1):=by
 rw[List.drop_eq_getElem_cons h];simp[h]
theorem runE_end {p:UInt8->Bool}{s:List UInt8}{i:Nat}(h:s.length<=i):a0K p s i=i:=by simp[a0K,List.drop_eq_nil_of_le h]
theorem runE_no {p:UInt8->Bool}{s:List UInt8}{i:Nat}(h:i<s.length)(hp:p (s.getD i 0)=false):a0K p s i=i:=by
 simp only[a0K,a2J h,List.takeWhile_cons,hp];rfl
theorem b54 {p:UInt8->Bool}{s:List UInt8}{i:Nat}(h:i<s.length)(hp:p (s.getD i 0)=true):a0K p s i=a0K p s (i+1):=by
 simp only[a0K,a2J h,List.takeWhile_cons,hp,if_true,List.length_cons];omega
theorem a7O {p:UInt8->Bool}{s:List UInt8}{i:Nat}(h:i<=s.length):a0K p s i<=s.length:=by
 have h1:=List.takeWhile_sublist p (l:=s.drop i)
 have:=h1.length_le
 simp only[a0K,List.length_drop]at this ⊢;omega
theorem b8L {p:UInt8->Bool}{s:List UInt8}{i:Nat}:i<=a0K p s i:=by simp only[a0K];omega
section
variable (s:List UInt8) (i n:Nat) (tc:List V) (c a:Int) (e:Nat)
theorem c63 (g:Nat)(p:UInt8->Bool)(hq:env.quiet g=true)(hp:∀b:UInt8,E env (.call g [.int .u8 (b.toNat:Nat)]) []=some (.ret (.bool (p b)) []))(hi:i<=s.length)(hs:s.length<4611686018427387904) :
  E env (.call 122 [.ptr 0 0,.func (.func g) [] []]) (scH s i n tc c a e)=some (.ret (.str ((s.take (a0K p s i)).drop i)) (scH s (a0K p s i) n tc c a e)):=by
 obtain⟨r,hr⟩:∃r,r=a0K p s i:=⟨_,rfl⟩
 rw[<-hr]
 refine a0t rfl Tryz.func122 rfl rfl ?_
 refine eSG (oB 1 rfl (eSG (oB 5 rfl (F8 ?_))))
 refine V7 ?_
 refine a4x rfl ?_
 refine a7i (fun _=>[(0,.ptr 0 0),(1,.func (.func g) [] []),(5,.i i)]) (fun j=>scH s j n tc c a e) (fun j=>i<=j/\j<=s.length/\r=a0K p s j) (fun j=>s.length-j) i ⟨Nat.le_refl _,hi,hr⟩ ?_
 intro j ⟨hij,hj,hr⟩ ih
 refine F8 (eSG (oA 1 rfl ?_))
 refine oV (c37 ..) ?_
 refine oA 2 rfl ?_
 refine a0b rfl rfl rfl (fun h1=>?_) (fun h1=>?_)
 ·replace h1:j<s.length:=by simpa [leN_]using h1
  refine oA 9 rfl ?_
  refine j6 rfl rfl (a2l (a1N (by omega)) rfl) ?_
  refine b7h rfl rfl rfl hq rfl rfl (hp _) rfl ?_
  refine oB 1 rfl ?_
  refine Z9 rfl (fun h2=>?_) (fun h2=>?_)
  ·refine O0 ?_
   refine V7 ?_
   refine o7 (oA 4 rfl ?_)
   refine j6 rfl rfl (add1 (by omega)) ?_
   refine oB 3 rfl ?_
   exact⟨_,_,rfl,ih (j+1) (by omega) ⟨by omega,by omega,by rw[hr,b54 h1 h2]⟩⟩
  ·rw[runE_no h1 h2]at hr
   subst hr
   refine a3C ?_
   refine eSG (oA 9 rfl ?_)
   refine j6 rfl rfl (a2l (b0r (by omega) (by omega)) rfl) ?_
   refine oB 1 rfl ?_
   exact I5 ⟨_,rfl,rfl⟩
 ·replace h1:s.length<=j:=by simpa [leN_]using h1
  rw[runE_end h1]at hr
  subst hr
  refine oB 12 rfl ?_
  refine a0D rfl rfl ?_
  refine a3C ?_
  refine eSG (oA 9 rfl ?_)
  refine j6 rfl rfl (a2l (b0r (by omega) (by omega)) rfl) ?_
  refine oB 1 rfl ?_
  exact I5 ⟨_,rfl,rfl⟩
end
end Go.Proofs.YtjhfloacokgdiaaGreatDoor.Sc
namespace Go.Proofs.YtjhfloacokgdiaaGreatDoor.Sc
open Go Go.Vm
def a6y:Bool->List UInt8->Nat
 | _,[]=>0
 | true,b::r=>a6y (nlB b) r+1
 | false,b::r=>match a4Y b with
  | true=>a6y false r+1
  | false=>match decide (b.toNat=47)&&decide ((r.headD 0).toNat=47)with
   | true=>a6y true r+1
   | false=>0
def a0E (s:List UInt8)(i:Nat):Nat:=i+a6y false (s.drop i)
theorem b5j (s:List UInt8)(i:Nat):(s.drop i).headD 0=s.getD i 0:=by
 rcases Nat.lt_or_ge i s.length with h|h
 ·rw[a2J h];rfl
 ·rw[List.drop_eq_nil_of_le h,List.getD_eq_getElem?_getD,List.getElem?_eq_none h];rfl
theorem b3J {s:List UInt8}{i:Nat}(h:s.length<=i):a0E s i=i:=by simp[a0E,List.drop_eq_nil_of_le h,a6y]
theorem b4i {s:List UInt8}{i:Nat}(h:i<s.length)(hb:a4Y (s.getD i 0)=true):a0E s i=a0E s (i+1):=by
 simp only[a0E,a2J h,a6y,hb];omega
theorem b6d {s:List UInt8}{i:Nat}(h:i<s.length)(hb:a4Y (s.getD i 0)=false)(hc:(s.getD i 0).toNat≠47∨(s.getD (i+1) 0).toNat≠47):a0E s i=i:=by
 have:(decide ((s.getD i 0).toNat=47)&&decide (((s.drop (i+1)).headD 0).toNat=47))=false:=by
  rw[b5j,Bool.and_eq_false_iff,decide_eq_false_iff_not,decide_eq_false_iff_not];exact hc
 simp only[a0E,a2J h,a6y,hb,this];rfl
theorem b6e:∀l:List UInt8,a6y true l =(l.takeWhile nlB).length+a6y false (l.drop (l.takeWhile nlB).length)
 | []=>rfl
 | b::r=>by
  cases hb:nlB b with
  | true =>
   simp only[a6y,hb,List.takeWhile_cons,if_true,List.length_cons,List.drop_succ_cons]
   rw[b6e r];omega
  | false =>
   have h2:a4Y b=true:=by simp only[nlB,a4Y,decide_eq_false_iff_not,decide_eq_true_eq]at hb ⊢;omega
   simp only[a6y,hb,h2,List.takeWhile_cons,Bool.false_eq_true,if_false,List.length_nil,List.drop_zero];omega
theorem c5u {s:List UInt8}{i:Nat}(h:i<s.length)(h1:(s.getD i 0).toNat=47)(h2:(s.getD (i+1) 0).toNat=47):a0E s i=a0E s (a0K nlB s i):=by
 have hb:a4Y (s.getD i 0)=false:=by simp only[a4Y,decide_eq_false_iff_not];omega
 have hn:nlB (s.getD i 0)=true:=by simp only[nlB,decide_eq_true_eq];omega
 have hc:(decide ((s.getD i 0).toNat=47)&&decide (((s.drop (i+1)).headD 0).toNat=47))=true:=by rw[b5j,h1,h2];rfl
 rw[b54 h hn]
 simp only[a0E,a2J h,a6y,hb,hc,b6e,a0K,List.drop_drop];omega
theorem b1n {p:UInt8->Bool}{s:List UInt8}{i:Nat}(h:i<s.length)(hp:p (s.getD i 0)=true):i<a0K p s i:=by
 rw[b54 h hp];have:=b8L (p:=p) (s:=s) (i:=i+1);omega
section
variable (s:List UInt8) (i n:Nat) (tc:List V) (c a:Int) (e:Nat)
theorem c36 (hi:i<=s.length)(hs:s.length<4611686018427387904):E env (.call 77 [.ptr 0 0]) (scH s i n tc c a e)=some (.ret (.tuple []) (scH s (a0E s i) n tc c a e)):=by
 obtain⟨r,hr⟩:∃r,r=a0E s i:=⟨_,rfl⟩
 rw[<-hr]
 refine a0t rfl Tryz.func77 rfl rfl ?_
 refine V7 ?_
 refine a4x rfl ?_
 refine a7i (fun _=>[(0,.ptr 0 0)]) (fun j=>scH s j n tc c a e) (fun j=>j<=s.length/\r=a0E s j) (fun j=>s.length-j) i ⟨hi,hr⟩ ?_
 intro j ⟨hj,hr⟩ ih
 refine F8 (eSG (oA 1 rfl ?_))
 refine oV (c37 ..) ?_
 refine oB 1 rfl ?_
 refine Z9 rfl (fun h1=>?_) (fun h1=>?_)
 ·replace h1:j<s.length:=by simpa [leN_]using h1
  refine O0 ?_
  refine V7 ?_
  refine V7 ?_
  refine eSG (oA 8 rfl ?_)
  refine j6 rfl rfl (a2l (a1N (by omega)) rfl) ?_
  refine a1C rfl rfl rfl rfl rfl (c61 ..) rfl ?_
  refine oB 1 rfl ?_
  refine Z9 rfl (fun h2=>?_) (fun h2=>?_)
  ·refine o7 (oA 4 rfl ?_)
   refine j6 rfl rfl (add1 (by omega)) ?_
   refine oB 3 rfl ?_
   exact⟨_,_,rfl,ih (j+1) (by omega) ⟨by omega,by rw[hr,b4i h1 h2]⟩⟩
  ·refine eSG (oA 8 rfl ?_)
   refine j6 rfl rfl (a2l (a1N (by omega)) rfl) ?_
   refine oA 2 rfl ?_
   refine a0b rfl rfl rfl (fun h3=>?_) (fun h3=>?_)
   ·simp only[eqB,a1M,beq_iff_eq,beq_eq_false_iff_ne,ne_eq,Int.toNat_natCast]at h3
    refine oA 1 rfl ?_
    refine oV (c62 s j n tc c a e 1 (by omega)) ?_
    refine oB 3 rfl ?_
    refine Z9 rfl (fun h4=>?_) (fun h4=>?_)
    ·simp only[eqB,a1M,beq_iff_eq,beq_eq_false_iff_ne,ne_eq,Int.toNat_natCast]at h4
     refine o7 (oA 1 rfl ?_)
     refine oV (c63 s j n tc c a e 123 nlB rfl c64 hj hs) ?_
     refine G5 ?_
     exact⟨_,_,rfl,ih (a0K nlB s j) (by have:=b1n (p:=nlB) h1 (by simp only[nlB,decide_eq_true_eq];omega);omega) ⟨a7O hj,by rw[hr,c5u h1 (by omega) (by omega)]⟩⟩
    ·simp only[eqB,a1M,beq_iff_eq,beq_eq_false_iff_ne,ne_eq,Int.toNat_natCast]at h4
     rw[b6d h1 h2 (.inr (by omega))]at hr
     subst hr
     exact I5 ⟨_,rfl,rfl⟩
   ·simp only[eqB,a1M,beq_iff_eq,beq_eq_false_iff_ne,ne_eq,Int.toNat_natCast]at h3
    rw[b6d h1 h2 (.inl (by omega))]at hr
    subst hr
    refine oB 5 rfl ?_
    refine a0D rfl rfl ?_
    exact I5 ⟨_,rfl,rfl⟩
 ·replace h1:s.length<=j:=by simpa [leN_]using h1
  rw[b3J h1]at hr
  subst hr
  refine a3C ?_
  exact⟨_,rfl,rfl⟩
end
end Go.Proofs.YtjhfloacokgdiaaGreatDoor.Sc
namespace Go.Proofs.YtjhfloacokgdiaaGreatDoor.Sc
open Go Go.Vm
def a3t:List UInt8:=[57,50,50,51,51,55,50,48,51,54,56,53,52,55,55,53,56,48,55]
def a0H (w:List UInt8)(nx:UInt8):Bool:=(ltB 1 w.length&&eqB (w.getD 0 0).toNat 48)||ltB 19 w.length ||(eqB w.length 19 && !(ltS w a3t||eqS w a3t))||a0I nx
def b0Y (k:Int)(w:List UInt8)(i l:Nat):List V:=[.i k,.str w,.i i,.i l]
section
variable (s:List UInt8) (i n:Nat) (tc:List V) (c a:Int) (e:Nat)
theorem c42 (hi:i<=s.length)(hs:s.length<4611686018427387904)(he:e=0∨e=4)(hn:n<=100000)(htc:tc.length=n*4)(r:Nat)(hr:a0K U8 s i=r)(w:List UInt8)(hw:(s.take r).drop i=w)(b:Bool)(hb:a0H w (s.getD r 0)=b) :
  E env (.call 83 [.ptr 0 0]) (scH s i n tc c a e)=some (.ret (.bool (!b)) (match b with|true=>scH s r n tc 13 i e|false=>scH s r (n+1) (tc++b0Y 3 w i (r-i)) c a 4)):=by
 have h63:=c63 s i n tc c a e 82 U8 rfl c41 hi hs
 rw[hr,hw]at h63
 have hri:i<=r:=by rw[<-hr];exact b8L
 have hrl:r<=s.length:=by rw[<-hr];exact a7O hi
 refine a0t rfl Tryz.func83 rfl rfl ?_
 refine eSG (oB 1 rfl (eSG (oB 6 rfl (eSG (oA 3 rfl ?_)))))
 refine b1i rfl rfl rfl (a4B rfl rfl h63 rfl rfl rfl) ?_
 refine oB 1 rfl (F8 (eSG (oA 4 rfl ?_)))
 refine a0b rfl rfl rfl (fun h1=>?_) (fun h1=>?_)
 ·refine oA 1 rfl ?_
  refine j6 rfl rfl (a2l (a1N (i:=0) (by simp only[ltB,decide_eq_true_eq]at h1;omega)) rfl) ?_
  refine oA 3 rfl ?_
  refine a0b rfl rfl rfl (fun h2=>?_) (fun h2=>?_)
  ·refine oB 20 rfl ?_
   refine Z6 rfl rfl ?_
   refine eSG (oA 2 rfl ?_)
   refine oV (c38 ..) ?_
   refine oB 1 rfl ?_
   obtain rfl:b=true:=by rw[<-hb];clear hb h63;(try simp only[Int.toNat_zero,Nat.add_zero]at *);simp only[*,a0H,a3t,Bool.and_true,Bool.true_and,Bool.and_false,Bool.false_and,Bool.or_true,Bool.true_or,Bool.or_false,Bool.false_or,Bool.not_true,Bool.not_false]
   exact I5 ⟨_,rfl,rfl⟩
  ·refine oA 5 rfl ?_
   refine a0b rfl rfl rfl (fun h3=>?_) (fun h3=>?_)
   ·refine oB 15 rfl ?_
    refine Z6 rfl rfl ?_
    refine eSG (oA 2 rfl ?_)
    refine oV (c38 ..) ?_
    refine oB 1 rfl ?_
    obtain rfl:b=true:=by rw[<-hb];clear hb h63;(try simp only[Int.toNat_zero,Nat.add_zero]at *);simp only[*,a0H,a3t,Bool.and_true,Bool.true_and,Bool.and_false,Bool.false_and,Bool.or_true,Bool.true_or,Bool.or_false,Bool.false_or,Bool.not_true,Bool.not_false]
    exact I5 ⟨_,rfl,rfl⟩
   ·refine oA 4 rfl ?_
    refine a0b rfl rfl rfl (fun h4=>?_) (fun h4=>?_)
    ·refine oA 5 rfl ?_
     refine a0b rfl rfl rfl (fun h5=>?_) (fun h5=>?_)
     ·refine oB 6 rfl ?_
      refine Z6 rfl rfl ?_
      refine eSG (oA 2 rfl ?_)
      refine oV (c38 ..) ?_
      refine oB 1 rfl ?_
      obtain rfl:b=true:=by rw[<-hb];clear hb h63;(try simp only[Int.toNat_zero,Nat.add_zero]at *);simp only[*,a0H,a3t,Bool.and_true,Bool.true_and,Bool.and_false,Bool.false_and,Bool.or_true,Bool.true_or,Bool.or_false,Bool.false_or,Bool.not_true,Bool.not_false]
      exact I5 ⟨_,rfl,rfl⟩
     ·refine oA 3 rfl ?_
      refine oV (c62 s r n tc c a e 0 (by omega)) ?_
      refine a1C rfl rfl rfl rfl rfl (c43 ..) rfl ?_
      refine oB 1 rfl ?_
      refine Z9 rfl (fun h6=>?_) (fun h6=>?_)
      ·refine eSG (oA 2 rfl ?_)
       refine oV (c38 ..) ?_
       refine oB 1 rfl ?_
       obtain rfl:b=true:=by rw[<-hb];clear hb h63;(try simp only[Int.toNat_zero,Nat.add_zero]at *);simp only[*,a0H,a3t,Bool.and_true,Bool.true_and,Bool.and_false,Bool.false_and,Bool.or_true,Bool.true_or,Bool.or_false,Bool.false_or,Bool.not_true,Bool.not_false]
       exact I5 ⟨_,rfl,rfl⟩
      ·refine O0 (eSG (oA 3 rfl ?_))
       refine oV (c46 s r n tc c a e 3 w i hri (by omega) he hn htc) ?_
       refine G5 (eSG (oB 1 rfl ?_))
       obtain rfl:b=false:=by rw[<-hb];clear hb h63;(try simp only[Int.toNat_zero,Nat.add_zero]at *);simp only[*,a0H,a3t,Bool.and_true,Bool.true_and,Bool.and_false,Bool.false_and,Bool.or_true,Bool.true_or,Bool.or_false,Bool.false_or,Bool.not_true,Bool.not_false]
       exact I5 ⟨_,rfl,rfl⟩
    ·refine oA 8 rfl ?_
     refine oV (c62 s r n tc c a e 0 (by omega)) ?_
     refine a1C rfl rfl rfl rfl rfl (c43 ..) rfl ?_
     refine oB 1 rfl ?_
     refine Z9 rfl (fun h7=>?_) (fun h7=>?_)
     ·refine eSG (oA 2 rfl ?_)
      refine oV (c38 ..) ?_
      refine oB 1 rfl ?_
      obtain rfl:b=true:=by rw[<-hb];clear hb h63;(try simp only[Int.toNat_zero,Nat.add_zero]at *);simp only[*,a0H,a3t,Bool.and_true,Bool.true_and,Bool.and_false,Bool.false_and,Bool.or_true,Bool.true_or,Bool.or_false,Bool.false_or,Bool.not_true,Bool.not_false]
      exact I5 ⟨_,rfl,rfl⟩
     ·refine O0 (eSG (oA 3 rfl ?_))
      refine oV (c46 s r n tc c a e 3 w i hri (by omega) he hn htc) ?_
      refine G5 (eSG (oB 1 rfl ?_))
      obtain rfl:b=false:=by rw[<-hb];clear hb h63;(try simp only[Int.toNat_zero,Nat.add_zero]at *);simp only[*,a0H,a3t,Bool.and_true,Bool.true_and,Bool.and_false,Bool.false_and,Bool.or_true,Bool.true_or,Bool.or_false,Bool.false_or,Bool.not_true,Bool.not_false]
      exact I5 ⟨_,rfl,rfl⟩
 ·refine oA 10 rfl ?_
  refine a0b rfl rfl rfl (fun h8=>?_) (fun h8=>?_)
  ·refine oB 15 rfl ?_
   refine Z6 rfl rfl ?_
   refine eSG (oA 2 rfl ?_)
   refine oV (c38 ..) ?_
   refine oB 1 rfl ?_
   obtain rfl:b=true:=by rw[<-hb];clear hb h63;(try simp only[Int.toNat_zero,Nat.add_zero]at *);simp only[*,a0H,a3t,Bool.and_true,Bool.true_and,Bool.and_false,Bool.false_and,Bool.or_true,Bool.true_or,Bool.or_false,Bool.false_or,Bool.not_true,Bool.not_false]
   exact I5 ⟨_,rfl,rfl⟩
  ·refine oA 4 rfl ?_
   refine a0b rfl rfl rfl (fun h9=>?_) (fun h9=>?_)
   ·refine oA 5 rfl ?_
    refine a0b rfl rfl rfl (fun h10=>?_) (fun h10=>?_)
    ·refine oB 6 rfl ?_
     refine Z6 rfl rfl ?_
     refine eSG (oA 2 rfl ?_)
     refine oV (c38 ..) ?_
     refine oB 1 rfl ?_
     obtain rfl:b=true:=by rw[<-hb];clear hb h63;(try simp only[Int.toNat_zero,Nat.add_zero]at *);simp only[*,a0H,a3t,Bool.and_true,Bool.true_and,Bool.and_false,Bool.false_and,Bool.or_true,Bool.true_or,Bool.or_false,Bool.false_or,Bool.not_true,Bool.not_false]
     exact I5 ⟨_,rfl,rfl⟩
    ·refine oA 3 rfl ?_
     refine oV (c62 s r n tc c a e 0 (by omega)) ?_
     refine a1C rfl rfl rfl rfl rfl (c43 ..) rfl ?_
     refine oB 1 rfl ?_
     refine Z9 rfl (fun h11=>?_) (fun h11=>?_)
     ·refine eSG (oA 2 rfl ?_)
      refine oV (c38 ..) ?_
      refine oB 1 rfl ?_
      obtain rfl:b=true:=by rw[<-hb];clear hb h63;(try simp only[Int.toNat_zero,Nat.add_zero]at *);simp only[*,a0H,a3t,Bool.and_true,Bool.true_and,Bool.and_false,Bool.false_and,Bool.or_true,Bool.true_or,Bool.or_false,Bool.false_or,Bool.not_true,Bool.not_false]
      exact I5 ⟨_,rfl,rfl⟩
     ·refine O0 (eSG (oA 3 rfl ?_))
      refine oV (c46 s r n tc c a e 3 w i hri (by omega) he hn htc) ?_
      refine G5 (eSG (oB 1 rfl ?_))
      obtain rfl:b=false:=by rw[<-hb];clear hb h63;(try simp only[Int.toNat_zero,Nat.add_zero]at *);simp only[*,a0H,a3t,Bool.and_true,Bool.true_and,Bool.and_false,Bool.false_and,Bool.or_true,Bool.true_or,Bool.or_false,Bool.false_or,Bool.not_true,Bool.not_false]
      exact I5 ⟨_,rfl,rfl⟩
   ·refine oA 8 rfl ?_
    refine oV (c62 s r n tc c a e 0 (by omega)) ?_
    refine a1C rfl rfl rfl rfl rfl (c43 ..) rfl ?_
    refine oB 1 rfl ?_
    refine Z9 rfl (fun h12=>?_) (fun h12=>?_)
    ·refine eSG (oA 2 rfl ?_)
     refine oV (c38 ..) ?_
     refine oB 1 rfl ?_
     obtain rfl:b=true:=by rw[<-hb];clear hb h63;(try simp only[Int.toNat_zero,Nat.add_zero]at *);simp only[*,a0H,a3t,Bool.and_true,Bool.true_and,Bool.and_false,Bool.false_and,Bool.or_true,Bool.true_or,Bool.or_false,Bool.false_or,Bool.not_true,Bool.not_false]
     exact I5 ⟨_,rfl,rfl⟩
    ·refine O0 (eSG (oA 3 rfl ?_))
     refine oV (c46 s r n tc c a e 3 w i hri (by omega) he hn htc) ?_
     refine G5 (eSG (oB 1 rfl ?_))
     obtain rfl:b=false:=by rw[<-hb];clear hb h63;(try simp only[Int.toNat_zero,Nat.add_zero]at *);simp only[*,a0H,a3t,Bool.and_true,Bool.true_and,Bool.and_false,Bool.false_and,Bool.or_true,Bool.true_or,Bool.or_false,Bool.false_or,Bool.not_true,Bool.not_false]
     exact I5 ⟨_,rfl,rfl⟩
end
end Go.Proofs.YtjhfloacokgdiaaGreatDoor.Sc
namespace Go.Proofs.YtjhfloacokgdiaaGreatDoor.Sc
open Go Go.Vm
theorem b4G:∀a:List UInt8,ltS a a=false:=by
 unfold ltS
 intro a
 induction a with
 | nil=>rfl
 | cons x a ih=>simp[Op.bytesLess,ih]
theorem c3I:∀{a b:List UInt8},ltS a b=false->a≠b->ltS b a=true:=by
 unfold ltS
 intro a
 induction a with
 | nil =>
  intro b h hne
  cases b with
  | nil=>exact absurd rfl hne
  | cons y b=>cases h
 | cons x a ih =>
  intro b h hne
  cases b with
  | nil=>rfl
  | cons y b =>
   simp only[Op.bytesLess,Bool.or_eq_false_iff,Bool.and_eq_false_iff,decide_eq_false_iff_not,Bool.or_eq_true,Bool.and_eq_true,decide_eq_true_eq,beq_iff_eq,beq_eq_false_iff_ne]at h ⊢
   obtain⟨h1,h2⟩:=h
   by_cases hxy:x=y
   ·subst hxy
    refine .inr ⟨rfl,ih ?_ (fun e=>hne (by rw[e]))⟩
    rcases h2 with h2|h2
    ·exact absurd rfl h2
    ·exact h2
   ·refine .inl ?_
    rw[UInt8.lt_iff_toNat_lt]at h1 ⊢
    have:x.toNat≠y.toNat:=fun e=>hxy (UInt8.toNat_inj.1 e)
    omega
theorem b1g:∀{a b c:List UInt8},ltS a b=true->ltS b c=true->ltS a c=true:=by
 unfold ltS
 intro a
 induction a with
 | nil =>
  intro b c h g
  cases c with
  | nil=>cases b<;>cases g
  | cons z c=>rfl
 | cons x a ih =>
  intro b c h g
  cases b with
  | nil=>cases h
  | cons y b =>
   cases c with
   | nil=>cases g
   | cons z c =>
    simp only[Op.bytesLess,Bool.or_eq_true,Bool.and_eq_true,decide_eq_true_eq,beq_iff_eq]at h g ⊢
    rw[UInt8.lt_iff_toNat_lt]at *
    rcases h with h |⟨rfl,h⟩<;>rcases g with g |⟨rfl,g⟩
    ·exact .inl (by omega)
    ·exact .inl h
    ·exact .inl g
    ·exact .inr ⟨rfl,ih h g⟩
def b29:List (List UInt8)->Bool
 | []=>true
 | a::r=>r.all (fun b=>ltS a b)&&b29 r
theorem a7q:∀{l:List (List UInt8)},b29 l=true -> ∀i j,i<j->j<l.length->ltS (l.getD i []) (l.getD j [])=true
 | [],_,i,j,_,hj=>by simp at hj
 | a::r,h,i,j,hij,hj=>by
  simp only[b29,Bool.and_eq_true,List.all_eq_true]at h
  cases j with
  | zero=>omega
  | succ j =>
   have hj':j<r.length:=by simpa using hj
   cases i with
   | zero =>
    have:(a::r).getD (j+1) []=r[j]:=by simp[hj']
    rw[this]
    exact h.1 _ (List.getElem_mem hj')
   | succ i =>
    have:=a7q h.2 i j (by omega) hj'
    simpa using this
def a7v (l:List (List UInt8))(x:List UInt8):Bool:=l.any fun y=>decide (y=x)
theorem c3u {l:List (List UInt8)}{x:List UInt8}{i:Nat}(hi:i<l.length)(h:eqS (l.getD i []) x=true):a7v l x=true:=by
 simp only[eqS,beq_iff_eq]at h
 simp only[a7v,List.any_eq_true,decide_eq_true_eq]
 refine⟨l[i],List.getElem_mem hi,?_⟩
 simpa [hi]using h
theorem c3t {l:List (List UInt8)}{x:List UInt8}(h:∀i,i<l.length->l.getD i []≠x):a7v l x=false:=by
 simp only[a7v,List.any_eq_false,decide_eq_true_eq]
 intro y hy
 obtain⟨i,hi,rfl⟩:=List.mem_iff_getElem.1 hy
 have:=h i hi
 simpa [hi]using this
theorem ld9 {l:List (List UInt8)}{i:Nat}(h:i<l.length):a3h env.T 9 (.ptr 0 (0+(i:Int).toNat*1)) [(0,.row (l.map V.str))]=some (.str (l.getD i [])):=by
 show(l.map V.str)[0+(i:Int).toNat*1]? = _
 simp[h]
def a3r:List (List UInt8):=[[97,110,121],[99,97,115,101],[99,97,116,99,104],[99,108,97,115,115],[99,111,110,115,117,109,101],[100,101,102,97,117,108,116],[100,101,102,101,114],[100,101,105,110,105,116],[100,111],[101,108,115,101],[101,110,117,109],[101,120,116,101,110,100],[102,97,108,115,101],[102,114,111,122,101,110],[102,117,110,99],[105,102],[105,110],[105,110,100,105,114,101,99,116],[105,110,111,117,116],[108,101,116],[109,97,116,99,104],[109,111,118,101,111,110,108,121],[112,114,111,116,111,99,111,108],[114,101,116,117,114,110],[115,116,114,117,99,116],[116,104,114,111,119],[116,104,114,111,119,115],[116,114,117,101],[116,121,112,101],[118,97,114],[119,104,101,114,101],[119,104,105,108,101]]
def a0N:List (List UInt8):=[[33],[33,61],[37],[38],[38,38],[40],[41],[42],[43],[44],[45],[45,62],[46],[47],[58],[59],[60],[60,61],[61],[61,61],[62],[62,61],[91],[93],[123],[124,124],[125]]
theorem b1S:b29 a3r=true:=by kernel_rfl
theorem c66w (x:List UInt8)(r:Bool)(hr:a7v a3r x=r) :
  E env (.call 126 [.rslice 0 0 32 false,.str x]) [(0,.row (a3r.map V.str))]=some (.ret (.bool r) [(0,.row (a3r.map V.str))]):=by
 refine a0t rfl Tryz.func126 rfl rfl ?_
 refine eSG (oB 1 rfl (eSG (oB 4 rfl (F8 ?_))))
 refine V7 ?_
 refine a4x rfl ?_
 refine a7i (fun p:Nat×Nat=>[(0,.rslice 0 0 32 false),(1,.str x),(5,.i p.1),(6,.i p.2)]) (fun _=>[(0,.row (a3r.map V.str))]) (fun p=>p.1<=p.2/\p.2<=32/\(∀k,k<p.1->ltS (a3r.getD k []) x=true) /\ ∀k,p.2<=k->k<32->ltS x (a3r.getD k [])=true) (fun p=>p.2-p.1) (0,32) ⟨Nat.zero_le _,Nat.le_refl _,fun k hk=>by omega,fun k h1 h2=>by omega⟩ ?_
 intro⟨lo,hi⟩ ⟨hlo,hhi,hL,hR⟩ ih
 simp only at hlo hhi hL hR
 refine F8 (eSG (oB 3 rfl ?_))
 refine Z9 rfl (fun h1=>?_) (fun h1=>?_)
 ·replace h1:lo<hi:=by simpa [ltN]using h1
  refine O0 ?_
  refine V7 ?_
  refine eSG (oA 2 rfl ?_)
  refine j6 rfl rfl (addN (by omega)) ?_
  refine j6 rfl rfl (half (by omega)) ?_
  refine oB 1 rfl ?_
  refine V7 ?_
  refine eSG (oA 2 rfl ?_)
  refine j6 rfl rfl (a2l (a1N (by omega)) rfl) ?_
  refine a0Q rfl rfl rfl (ld9 (l:=a3r) (by show _<32;omega)) ?_
  refine oB 3 rfl ?_
  refine Z9 rfl (fun h2=>?_) (fun h2=>?_)
  ·obtain rfl:r=true:=by rw[<-hr];exact c3u (l:=a3r) (by show _<32;omega) h2
   refine eSG (oB 1 rfl ?_)
   exact I5 ⟨_,rfl,rfl⟩
  ·have hne:a3r.getD ((lo+hi)/2) []≠x:=fun e=>by simp only[eqS,e,beq_self_eq_true]at h2;cases h2
   refine eSG (oA 2 rfl ?_)
   refine j6 rfl rfl (a2l (a1N (by omega)) rfl) ?_
   refine a0Q rfl rfl rfl (ld9 (l:=a3r) (by show _<32;omega)) ?_
   refine oB 3 rfl ?_
   refine Z9 rfl (fun h3=>?_) (fun h3=>?_)
   ·have hL2:∀k,k<(lo+hi)/2+1->ltS (a3r.getD k []) x=true:=fun k hk=>by
     rcases Nat.lt_or_ge k ((lo+hi)/2)with h|h
     ·exact b1g (a7q (l:=a3r) b1S _ _ h (by show _<32;omega)) h3
     ·obtain rfl:k =(lo+hi)/2:=by omega
      exact h3
    refine o7 (oA 1 rfl ?_)
    refine j6 rfl rfl (add1 (by omega)) ?_
    refine oB 1 rfl ?_
    exact⟨_,_,rfl,ih ((lo+hi)/2+1,hi) (by show hi-((lo+hi)/2+1)<hi-lo;omega) ⟨by show(lo+hi)/2+1<=hi;omega,hhi,hL2,hR⟩⟩
   ·have hR2:∀k,(lo+hi)/2<=k->k<32->ltS x (a3r.getD k [])=true:=fun k hk hk2=>by
     have h4:=c3I h3 hne
     rcases Nat.lt_or_ge ((lo+hi)/2) k with h|h
     ·exact b1g h4 (a7q (l:=a3r) b1S _ _ h (by exact hk2))
     ·obtain rfl:k =(lo+hi)/2:=by omega
      exact h4
    refine o7 (oB 2 rfl ?_)
    exact⟨_,_,rfl,ih (lo,(lo+hi)/2) (by show(lo+hi)/2-lo<hi-lo;omega) ⟨by show lo <=(lo+hi)/2;omega,by show(lo+hi)/2<=32;omega,hL,hR2⟩⟩
 ·replace h1:¬lo<hi:=by simpa [ltN]using h1
  obtain rfl:r=false:=by
   rw[<-hr]
   refine c3t (l:=a3r) fun k hk e=>?_
   rcases Nat.lt_or_ge k lo with h|h
   ·have:=hL k h;rw[e,b4G]at this;cases this
   ·have:=hR k (by omega) (by exact hk);rw[e,b4G]at this;cases this
  refine a3C ?_
  refine eSG (oB 1 rfl ?_)
  exact I5 ⟨_,rfl,rfl⟩
theorem b1R:b29 a0N=true:=by kernel_rfl
theorem c66s (x:List UInt8)(r:Bool)(hr:a7v a0N x=r) :
  E env (.call 126 [.rslice 0 0 27 false,.str x]) [(0,.row (a0N.map V.str))]=some (.ret (.bool r) [(0,.row (a0N.map V.str))]):=by
 refine a0t rfl Tryz.func126 rfl rfl ?_
 refine eSG (oB 1 rfl (eSG (oB 4 rfl (F8 ?_))))
 refine V7 ?_
 refine a4x rfl ?_
 refine a7i (fun p:Nat×Nat=>[(0,.rslice 0 0 27 false),(1,.str x),(5,.i p.1),(6,.i p.2)]) (fun _=>[(0,.row (a0N.map V.str))]) (fun p=>p.1<=p.2/\p.2<=27/\(∀k,k<p.1->ltS (a0N.getD k []) x=true) /\ ∀k,p.2<=k->k<27->ltS x (a0N.getD k [])=true) (fun p=>p.2-p.1) (0,27) ⟨Nat.zero_le _,Nat.le_refl _,fun k hk=>by omega,fun k h1 h2=>by omega⟩ ?_
 intro⟨lo,hi⟩ ⟨hlo,hhi,hL,hR⟩ ih
 simp only at hlo hhi hL hR
 refine F8 (eSG (oB 3 rfl ?_))
 refine Z9 rfl (fun h1=>?_) (fun h1=>?_)
 ·replace h1:lo<hi:=by simpa [ltN]using h1
  refine O0 ?_
  refine V7 ?_
  refine eSG (oA 2 rfl ?_)
  refine j6 rfl rfl (addN (by omega)) ?_
  refine j6 rfl rfl (half (by omega)) ?_
  refine oB 1 rfl ?_
  refine V7 ?_
  refine eSG (oA 2 rfl ?_)
  refine j6 rfl rfl (a2l (a1N (by omega)) rfl) ?_
  refine a0Q rfl rfl rfl (ld9 (l:=a0N) (by show _<27;omega)) ?_
  refine oB 3 rfl ?_
  refine Z9 rfl (fun h2=>?_) (fun h2=>?_)
  ·obtain rfl:r=true:=by rw[<-hr];exact c3u (l:=a0N) (by show _<27;omega) h2
   refine eSG (oB 1 rfl ?_)
   exact I5 ⟨_,rfl,rfl⟩
  ·have hne:a0N.getD ((lo+hi)/2) []≠x:=fun e=>by simp only[eqS,e,beq_self_eq_true]at h2;cases h2
   refine eSG (oA 2 rfl ?_)
   refine j6 rfl rfl (a2l (a1N (by omega)) rfl) ?_
   refine a0Q rfl rfl rfl (ld9 (l:=a0N) (by show _<27;omega)) ?_
   refine oB 3 rfl ?_
   refine Z9 rfl (fun h3=>?_) (fun h3=>?_)
   ·have hL2:∀k,k<(lo+hi)/2+1->ltS (a0N.getD k []) x=true:=fun k hk=>by
     rcases Nat.lt_or_ge k ((lo+hi)/2)with h|h
     ·exact b1g (a7q (l:=a0N) b1R _ _ h (by show _<27;omega)) h3
     ·obtain rfl:k =(lo+hi)/2:=by omega
      exact h3
    refine o7 (oA 1 rfl ?_)
    refine j6 rfl rfl (add1 (by omega)) ?_
    refine oB 1 rfl ?_
    exact⟨_,_,rfl,ih ((lo+hi)/2+1,hi) (by show hi-((lo+hi)/2+1)<hi-lo;omega) ⟨by show(lo+hi)/2+1<=hi;omega,hhi,hL2,hR⟩⟩
   ·have hR2:∀k,(lo+hi)/2<=k->k<27->ltS x (a0N.getD k [])=true:=fun k hk hk2=>by
     have h4:=c3I h3 hne
     rcases Nat.lt_or_ge ((lo+hi)/2) k with h|h
     ·exact b1g h4 (a7q (l:=a0N) b1R _ _ h (by exact hk2))
     ·obtain rfl:k =(lo+hi)/2:=by omega
      exact h4
    refine o7 (oB 2 rfl ?_)
    exact⟨_,_,rfl,ih (lo,(lo+hi)/2) (by show(lo+hi)/2-lo<hi-lo;omega) ⟨by show lo <=(lo+hi)/2;omega,by show(lo+hi)/2<=27;omega,hL,hR2⟩⟩
 ·replace h1:¬lo<hi:=by simpa [ltN]using h1
  obtain rfl:r=false:=by
   rw[<-hr]
   refine c3t (l:=a0N) fun k hk e=>?_
   rcases Nat.lt_or_ge k lo with h|h
   ·have:=hL k h;rw[e,b4G]at this;cases this
   ·have:=hR k (by omega) (by exact hk);rw[e,b4G]at this;cases this
  refine a3C ?_
  refine eSG (oB 1 rfl ?_)
  exact I5 ⟨_,rfl,rfl⟩
end Go.Proofs.YtjhfloacokgdiaaGreatDoor.Sc
namespace Go.Proofs.YtjhfloacokgdiaaGreatDoor.Sc
open Go Go.Vm
theorem c31:E env (.call 125 []) []=some (.ret (.agg (a3r.map V.str)) []):=(a1L env).le 5 _ _ _ (by kernel_rfl)
theorem c32:E env (.call 127 []) []=some (.ret (.agg (a0N.map V.str)) []):=(a1L env).le 5 _ _ _ (by kernel_rfl)
def a1W (s:List UInt8)(i:Nat):Nat->List UInt8
 | 0=>[]
 | k+1=>match leB ((i+(k+1):Nat):Int) s.length&&a7v a0N ((s.take (i+(k+1))).drop i)with
  | true=>(s.take (i+(k+1))).drop i
  | false=>a1W s i k
section
variable (s:List UInt8) (i n:Nat) (tc:List V) (c a:Int) (e:Nat)
theorem c45 (hi:i<=s.length)(hs:s.length<4611686018427387904)(r:List UInt8)(hr:a1W s i 2=r):E env (.call 86 [.ptr 0 0]) (scH s i n tc c a e)=some (.ret (.str r) (scH s i n tc c a e)):=by
 refine a0t rfl Tryz.func86 rfl rfl ?_
 refine eSG (oB 1 rfl (eSG ?_))
 refine a1C rfl rfl rfl rfl rfl (c32 ..) rfl ?_
 refine oB 2 rfl (F8 (eSG (oB 1 rfl ?_)))
 refine V7 ?_
 refine a4x rfl ?_
 refine a7i (fun k:Nat=>[(0,.ptr 0 0),(3,.ptr 2 0),(4,.i k)]) (fun _=>[(0,.row [.str s,.i i,.slice (.tag 1) n tc,.i c,.i a]),(1,.tip e n),(2,.row (a0N.map V.str))]) (fun k=>k<=2/\a1W s i k=r) (fun k=>k) 2 ⟨Nat.le_refl _,hr⟩ ?_
 intro k ⟨hk,hr⟩ ih
 refine F8 (eSG (oB 2 rfl ?_))
 refine Z9 rfl (fun h1=>?_) (fun h1=>?_)
 ·replace h1:0<k:=by simpa [ltB]using h1
  obtain⟨k,rfl⟩:∃k0,k=k0+1:=⟨k-1,by omega⟩
  refine O0 (F8 ?_)
  refine V7 ?_
  refine eSG (oA 6 rfl ?_)
  refine j6 rfl rfl (addN (by omega)) ?_
  refine oA 8 rfl ?_
  refine a0b rfl rfl rfl (fun h2=>?_) (fun h2=>?_)
  ·have h2':i+(k+1)<=s.length:=by have h:=h2;rw[leN_,decide_eq_true_eq]at h;exact h
   refine j6 rfl rfl (a2l (b0r (a:=0) (b:=27) (by omega) (by omega)) rfl) ?_
   refine oA 16 rfl ?_
   refine j6 rfl rfl (addN (by omega)) ?_
   refine j6 rfl rfl (a2l (b0r (by omega) (by omega)) rfl) ?_
   refine oV (c66s _ _ rfl) ?_
   refine oB 1 rfl ?_
   refine Z9 rfl (fun h3=>?_) (fun h3=>?_)
   ·simp only[Int.toNat_natCast]at h3
    obtain rfl:(s.take (i+(k+1))).drop i=r:=by rw[<-hr];simp only[a1W,h2,h3,Bool.true_and]
    refine eSG (oA 16 rfl ?_)
    refine j6 rfl rfl (addN (by omega)) ?_
    refine j6 rfl rfl (a2l (b0r (by omega) (by omega)) rfl) ?_
    refine oB 1 rfl ?_
    exact I5 ⟨_,rfl,rfl⟩
   ·simp only[Int.toNat_natCast]at h3
    refine O0 (o7 (oA 1 rfl ?_))
    refine j6 rfl rfl (sub1 (by omega) (by omega)) ?_
    refine oB 1 rfl ?_
    exact⟨_,_,rfl,ih k (by omega) ⟨by omega,by rw[<-hr];simp only[a1W,h2,h3,Bool.true_and]⟩⟩
  ·refine oB 21 rfl ?_
   refine a0D rfl rfl ?_
   refine O0 (o7 (oA 1 rfl ?_))
   refine j6 rfl rfl (sub1 (by omega) (by omega)) ?_
   refine oB 1 rfl ?_
   exact⟨_,_,rfl,ih k (by omega) ⟨by omega,by rw[<-hr];simp only[a1W,h2,Bool.false_and]⟩⟩
 ·obtain rfl:k=0:=by simpa [ltB]using h1
  obtain rfl:[]=r:=hr
  refine a3C ?_
  refine eSG (oB 1 rfl ?_)
  exact I5 ⟨_,rfl,rfl⟩
end
end Go.Proofs.YtjhfloacokgdiaaGreatDoor.Sc
namespace Go.Proofs.YtjhfloacokgdiaaGreatDoor.Sc
open Go Go.Vm
def a3L (w:List UInt8):Int:=match a7v a3r w with
 | true=>9
 | false=>match leB 65 (w.getD 0 0).toNat&&leB (w.getD 0 0).toNat 90 with|true=>2|false=>1
section
variable (s:List UInt8) (i n:Nat) (tc:List V) (c a:Int) (e:Nat)
theorem c44 (hi:i<=s.length)(hs:s.length<4611686018427387904)(he:e=0∨e=4)(hn:n<=100000)(htc:tc.length=n*4)(r:Nat)(hr:a0K a19 s i=r)(w:List UInt8)(hw:(s.take r).drop i=w)(hw0:0<w.length)(b:Bool)(hb:ltB 24 w.length=b) :
  E env (.call 85 [.ptr 0 0]) (scH s i n tc c a e)=some (.ret (.bool (!b)) (match b with|true=>scH s r n tc 14 i e|false=>scH s r (n+1) (tc++b0Y (a3L w) w i (r-i)) c a 4)):=by
 have h63:=c63 s i n tc c a e 124 a19 rfl c65 hi hs
 rw[hr,hw]at h63
 have hri:i<=r:=by rw[<-hr];exact b8L
 have hrl:r<=s.length:=by rw[<-hr];exact a7O hi
 obtain⟨k,hk⟩:∃k,a3L w=k:=⟨_,rfl⟩
 rw[hk]
 refine a0t rfl Tryz.func85 rfl rfl ?_
 refine eSG (oB 1 rfl (eSG (oB 6 rfl (eSG (oA 3 rfl ?_)))))
 refine b1i rfl rfl rfl (a4B rfl rfl h63 rfl rfl rfl) ?_
 refine oB 1 rfl (F8 (eSG (oB 3 rfl ?_)))
 refine Z9 rfl (fun h1=>?_) (fun h1=>?_)
 ·obtain rfl:b=true:=by rw[<-hb];exact h1
  refine eSG (oA 2 rfl ?_)
  refine oV (c38 ..) ?_
  refine oB 1 rfl ?_
  exact I5 ⟨_,rfl,rfl⟩
 ·obtain rfl:b=false:=by rw[<-hb];exact h1
  refine O0 (eSG ?_)
  refine a1C rfl rfl rfl rfl rfl (c31 ..) rfl ?_
  refine oB 2 rfl (eSG (oB 1 rfl (F8 (eSG ?_))))
  refine j6 rfl rfl (a2l (b0r (a:=0) (b:=32) (by omega) (by omega)) rfl) ?_
  refine oA 1 rfl ?_
  refine oV (c66w _ _ rfl) ?_
  refine G5 ?_
  refine Z9 rfl (fun h2=>?_) (fun h2=>?_)
  ·obtain rfl:9=k:=by rw[<-hk];simp only[a3L,h2]
   refine o7 (oB 1 rfl (eSG (oA 4 rfl ?_)))
   refine oV (c46 s r n tc c a e _ w i hri (by omega) he hn htc) ?_
   refine G5 (eSG (oB 1 rfl ?_))
   exact I5 ⟨_,rfl,rfl⟩
  ·refine eSG (oA 1 rfl ?_)
   refine j6 rfl rfl (a2l (a1N (i:=0) hw0) rfl) ?_
   refine oA 2 rfl ?_
   refine a0b rfl rfl rfl (fun h3=>?_) (fun h3=>?_)
   ·refine oA 1 rfl ?_
    refine j6 rfl rfl (a2l (a1N (i:=0) hw0) rfl) ?_
    refine oB 2 rfl ?_
    refine Z9 rfl (fun h4=>?_) (fun h4=>?_)
    ·simp only[Int.toNat_zero]at h3 h4
     obtain rfl:2=k:=by rw[<-hk];simp only[a3L,h2,h3,h4,Bool.and_self]
     refine o7 (oB 1 rfl (eSG (oA 4 rfl ?_)))
     refine oV (c46 s r n tc c a e _ w i hri (by omega) he hn htc) ?_
     refine G5 (eSG (oB 1 rfl ?_))
     exact I5 ⟨_,rfl,rfl⟩
    ·simp only[Int.toNat_zero]at h3 h4
     obtain rfl:1=k:=by rw[<-hk];simp only[a3L,h2,h3,h4,Bool.and_false]
     refine O0 (eSG (oA 4 rfl ?_))
     refine oV (c46 s r n tc c a e _ w i hri (by omega) he hn htc) ?_
     refine G5 (eSG (oB 1 rfl ?_))
     exact I5 ⟨_,rfl,rfl⟩
   ·simp only[Int.toNat_zero]at h3
    obtain rfl:1=k:=by rw[<-hk];simp only[a3L,h2,h3,Bool.false_and]
    refine oB 4 rfl ?_
    refine a0D rfl rfl ?_
    refine O0 (eSG (oA 4 rfl ?_))
    refine oV (c46 s r n tc c a e _ w i hri (by omega) he hn htc) ?_
    refine G5 (eSG (oB 1 rfl ?_))
    exact I5 ⟨_,rfl,rfl⟩
end
end Go.Proofs.YtjhfloacokgdiaaGreatDoor.Sc
namespace Go.Proofs.YtjhfloacokgdiaaGreatDoor.Sc
open Go Go.Vm
structure Tok where
 k:Int
 t:List UInt8
 a:Nat
 l:Nat
deriving DecidableEq
def a2d (l:List Tok):List V:=l.flatMap fun t=>b0Y t.k t.t t.a t.l
theorem a7e (l:List Tok):(a2d l).length=l.length*4:=by
 induction l with
 | nil=>rfl
 | cons t r ih=>simp only[a2d,List.flatMap_cons,List.length_append,List.length_cons]at ih ⊢;rw[ih];simp only[b0Y,List.length_cons,List.length_nil];omega
theorem b1Z (l:List Tok)(t:Tok):a2d (l++[t])=a2d l++b0Y t.k t.t t.a t.l:=by simp[a2d]
inductive PR where
 | err (c:Int) (a:Nat)
 | fin (t:List UInt8) (e:Nat)
 | more (t:List UInt8) (e:Nat)
section
variable (s:List UInt8)
def a5G (q ins:Nat):Nat->Nat->List UInt8->PR
 | 0,_,_=>.err 11 q
 | f+1,i,text =>
  match decide (i<s.length)&&decide (32 <=(s.getD i 0).toNat)with
  | false=>.err 11 q
  | true=>match decide ((s.getD i 0).toNat=34)with
   | true=>.fin text (i+1)
   | false=>match decide ((s.getD i 0).toNat=92)with
    | false=>a5G q ins f (i+1) (text++[s.getD i 0])
    | true=>match decide ((s.getD (i+1) 0).toNat=110)with
     | true=>a5G q ins f (i+2) (text++[10])
     | false=>match decide ((s.getD (i+1) 0).toNat=116)with
      | true=>a5G q ins f (i+2) (text++[9])
      | false=>match decide ((s.getD (i+1) 0).toNat=92)||decide ((s.getD (i+1) 0).toNat=34)with
       | true=>a5G q ins f (i+2) (text++[s.getD (i+1) 0])
       | false=>match decide ((s.getD (i+1) 0).toNat=40)with
        | true=>match decide (3<=ins)with
         | true=>.err 15 i
         | false=>.more text (i+2)
        | false=>.err 12 i
theorem a7m (q ins:Nat):∀(f g i:Nat) (text:List UInt8),s.length<=i+f->s.length<=i+g->a5G s q ins f i text=a5G s q ins g i text:=by
 have z:∀(g i:Nat) (text:List UInt8),s.length<=i->a5G s q ins g i text=.err 11 q:=by
  intro g i text h
  cases g with
  | zero=>rfl
  | succ g =>
   have:(decide (i<s.length)&&decide (32 <=(s.getD i 0).toNat))=false:=by rw[Bool.and_eq_false_iff,decide_eq_false_iff_not];exact .inl (by omega)
   simp only[a5G,this]
 intro f
 induction f with
 | zero=>intro g i text h _;rw[z g i text (by omega)];rfl
 | succ f ih =>
  intro g i text h1 h2
  cases g with
  | zero=>rw[z (f+1) i text (by omega)];rfl
  | succ g =>
   simp only[a5G]
   rw[ih g (i+1) (text++[s.getD i 0]) (by omega) (by omega),ih g (i+2) (text++[10]) (by omega) (by omega),ih g (i+2) (text++[9]) (by omega) (by omega),ih g (i+2) (text++[s.getD (i+1) 0]) (by omega) (by omega)]
def part (q ins i:Nat)(text:List UInt8):PR:=a5G s q ins (s.length-i) i text
theorem a5P (q ins i:Nat)(text:List UInt8):part s q ins i text =
  match decide (i<s.length)&&decide (32 <=(s.getD i 0).toNat)with
  | false=>.err 11 q
  | true=>match decide ((s.getD i 0).toNat=34)with
   | true=>.fin text (i+1)
   | false=>match decide ((s.getD i 0).toNat=92)with
    | false=>part s q ins (i+1) (text++[s.getD i 0])
    | true=>match decide ((s.getD (i+1) 0).toNat=110)with
     | true=>part s q ins (i+2) (text++[10])
     | false=>match decide ((s.getD (i+1) 0).toNat=116)with
      | true=>part s q ins (i+2) (text++[9])
      | false=>match decide ((s.getD (i+1) 0).toNat=92)||decide ((s.getD (i+1) 0).toNat=34)with
       | true=>part s q ins (i+2) (text++[s.getD (i+1) 0])
       | false=>match decide ((s.getD (i+1) 0).toNat=40)with
        | true=>match decide (3<=ins)with
         | true=>.err 15 i
         | false=>.more text (i+2)
        | false=>.err 12 i:=by
 unfold part
 rw[a7m s q ins (s.length-i) (s.length-i+1) i text (by omega) (by omega)]
 simp only[a5G]
 rw[a7m s q ins (s.length-i) (s.length-(i+1)) (i+1) _ (by omega) (by omega),a7m s q ins (s.length-i) (s.length-(i+2)) (i+2) (text++[10]) (by omega) (by omega),
  a7m s q ins (s.length-i) (s.length-(i+2)) (i+2) (text++[9]) (by omega) (by omega),a7m s q ins (s.length-i) (s.length-(i+2)) (i+2) (text++[s.getD (i+1) 0]) (by omega) (by omega)]
structure MS where
 i:Nat
 toks:List Tok
 st:List (Nat×Int)
inductive MR where
 | go (x:MS)
 | done (l:List Tok)
 | err (c:Int) (a:Nat)
def a1H (toks:List Tok)(st:List (Nat×Int))(q frm:Nat)(last more:Int):PR->MR
 | .err c a=>.err c a
 | .fin t e=>.go ⟨e,toks++[⟨last,t,frm,e-frm⟩],st⟩
 | .more t e=>.go ⟨e,toks++[⟨more,t,frm,e-frm⟩],(q,0)::st⟩
def bump (w:List UInt8):List (Nat×Int)->List (Nat×Int)
 | []=>[]
 |(q,p)::st=>match decide (w=[40])with
  | true=>(q,p+1)::st
  | false=>match decide (w=[41])with
   | true=>(q,p-1)::st
   | false=>(q,p)::st
def closes (b:Nat):List (Nat×Int)->Bool
 | []=>false
 |(_,p)::_=>decide (p=0)&&decide (b=41)
def roomy (toks:List Tok)(j:Nat)(r:MR):MR:=match decide (3000<=toks.length)with|true=>.err 2 j|false=>r
def stepM (x:MS):MR :=
  let j:=a0E s x.i
  match decide (s.length<=j)with
  | true=>match x.st with
    | []=>.done x.toks
    |(q,_)::_=>.err 11 q
  | false =>
    let b:=s.getD j 0
    match closes b.toNat x.st with
    | true=>match x.st with
      | []=>.err 0 0
      |(q,_)::st=>roomy x.toks j (a1H x.toks st q j 7 6 (part s q st.length (j+1) []))
    | false=>match decide (b.toNat=34)with
      | true=>roomy x.toks j (a1H x.toks x.st j j 4 5 (part s j x.st.length (j+1) []))
      | false=>match U8 b with
        | true=>roomy x.toks j (
            let r:=a0K U8 s j
            let w:=(s.take r).drop j
            match a0H w (s.getD r 0)with
            | true=>.err 13 j
            | false=>.go ⟨r,x.toks++[⟨3,w,j,r-j⟩],x.st⟩)
        | false=>match a0I b with
          | true=>roomy x.toks j (
              let r:=a0K a19 s j
              let w:=(s.take r).drop j
              match ltB 24 w.length with
              | true=>.err 14 j
              | false=>.go ⟨r,x.toks++[⟨a3L w,w,j,r-j⟩],x.st⟩)
          | false =>
            let w:=a1W s j 2
            match w with
            | []=>.err 10 j
            | w=>roomy x.toks j (.go ⟨j+w.length,x.toks++[⟨8,w,j,w.length⟩],bump w x.st⟩)
inductive Reach:MS->MS->Prop
 | refl (x:MS):Reach x x
 | step (x y z:MS):stepM s x=.go y->Reach y z->Reach x z
def Ends (x:MS)(r:MR):Prop:=∃y,Reach s x y/\stepM s y=r/\(∀z,r ≠ .go z)
theorem Reach.trans {x y z:MS}(h:Reach s x y)(g:Reach s y z):Reach s x z:=by
 induction h with
 | refl x=>exact g
 | step x y w h1 _ ih=>exact .step x y z h1 (ih g)
theorem Reach.one {x y:MS}(h:stepM s x=.go y):Reach s x y:=.step x y y h (.refl y)
theorem Ends.a0W {x y:MS}{r:MR}(h:Reach s x y)(g:Ends s y r):Ends s x r:=by
 obtain⟨z,h1,h2⟩:=g;exact⟨z,h.trans s h1,h2⟩
theorem Ends.det {x:MS}{r r':MR}(h:Ends s x r)(g:Ends s x r'):r=r':=by
 obtain⟨y,h1,h2,h3⟩:=h
 obtain⟨z,g1,g2,g3⟩:=g
 induction h1 with
 | refl x =>
  cases g1 with
  | refl=>rw[<-h2,<-g2]
  | step _ y _ k1 _=>rw[h2]at k1;exact absurd k1 (h3 y)
 | step x y w k1 k2 ih =>
  cases g1 with
  | refl=>rw[g2]at k1;exact absurd k1 (g3 y)
  | step _ y' _ m1 m2 =>
   rw[k1]at m1;cases m1
   exact ih h2 m2
end
end Go.Proofs.YtjhfloacokgdiaaGreatDoor.Sc
namespace Go.Proofs.YtjhfloacokgdiaaGreatDoor.Sc
open Go Go.Vm
theorem a7c (t:List UInt8):(a0G t).length=t.length*1:=by simp[a0G]
theorem a5X (t:List UInt8)(b:UInt8):a0G t++[V.int .u8 (b.toNat:Nat)]=a0G (t++[b]):=by simp[a0G]
theorem b0y (t:List UInt8)(b:UInt8):t.length+1 =(t++[b]).length:=by simp
theorem b4z {o:Own}(t:List UInt8):b3i env.T 58 9 (.slice o t.length (a0G t))=some (.str t):=by
 show(match a4g (a0G t)with|some l=>gd (eqN t.length l.length) (some (V.str l))|none=>none)=_
 rw[b2v]
 exact b3v (a2W rfl) rfl
def scE (s:List UInt8)(i:Nat)(toks:List Tok)(c a:Int)(e:Nat):Hp:=scH s i toks.length (a2d toks) c a e
theorem c46T (s:List UInt8)(i:Nat)(toks:List Tok)(c a:Int)(e:Nat)(k:Int)(t:List UInt8)(f:Nat)(hf:f<=i)(hi:i<9223372036854775808)(he:e=0∨e=4)(hn:toks.length<=100000) :
  E env (.call 87 [.ptr 0 0,.i k,.str t,.i f]) (scE s i toks c a e)=some (.ret (.tuple []) (scE s i (toks++[⟨k,t,f,i-f⟩]) c a 4)):=by
 have h:=c46 s i toks.length (a2d toks) c a e k t f hf hi he hn (a7e toks)
 unfold scE
 rw[b1Z,List.length_append]
 exact h
theorem c39F (s:List UInt8)(i:Nat)(toks:List Tok)(c a:Int)(e:Nat)(h:leB 3000 (toks.length:Nat)=false):E env (.call 80 [.ptr 0 0]) (scE s i toks c a e)=some (.ret (.bool true) (scE s i toks c a e)):=by
 have:=c39 s i toks.length (a2d toks) c a e
 rw[h]at this;exact this
theorem c39T (s:List UInt8)(i:Nat)(toks:List Tok)(c a:Int)(e:Nat)(h:leB 3000 (toks.length:Nat)=true):E env (.call 80 [.ptr 0 0]) (scE s i toks c a e)=some (.ret (.bool false) (scE s i toks 2 i e)):=by
 have:=c39 s i toks.length (a2d toks) c a e
 rw[h]at this;exact this
def OutP (s:List UInt8)(c a:Int)(P:Nat->List Tok->Prop)(Q:Int->Nat->Prop)(v:V)(H:Hp):Prop :=
 (v=.bool true /\ ∃i' toks' e',H=scE s i' toks' c a e'/\(e'=0∨e'=4)/\i'<=s.length/\toks'.length<=3000/\P i' toks') ∨
 (v=.bool false /\ ∃(c':Int) (a' i' n':Nat) (tc':List V) (e':Nat),H=scH s i' n' tc' c' a' e'/\Q c' a')
def AllOk (s:List UInt8)(nest:Nat):Prop:=∀(i:Nat) (toks:List Tok) (st:List (Nat×Int)) (opn:Nat) (c a:Int) (e:Nat),i<=s.length->toks.length<=3000 ->(e=0∨e=4)->st.length+1=nest ->
 ∃v H2,E env (.call 38 [.ptr 0 0,.i nest,.i opn]) (scE s i toks c a e)=some (.ret v H2) /\
  OutP s c a (fun i' toks'=>i<=i'/\i'<s.length/\(s.getD i' 0).toNat=41 /\ ∃i0,Reach s ⟨i,toks,(opn,0)::st⟩ ⟨i0,toks',(opn,0)::st⟩/\a0E s i0=i')
   (fun c' a'=>Ends s ⟨i,toks,(opn,0)::st⟩ (.err c' a')) v H2
def b4P (s:List UInt8)(nest:Nat):Prop:=∀(i i0:Nat) (toks:List Tok) (st:List (Nat×Int)) (c a:Int) (e:Nat),a0E s i0=i->i<s.length ->(s.getD i 0).toNat=34->toks.length<3000 ->(e=0∨e=4)->st.length=nest ->
 ∃v H2,E env (.call 81 [.ptr 0 0,.i nest]) (scE s i toks c a e)=some (.ret v H2) /\
  OutP s c a (fun i' toks'=>i<i'/\Reach s ⟨i0,toks,st⟩ ⟨i',toks',st⟩) (fun c' a'=>Ends s ⟨i0,toks,st⟩ (.err c' a')) v H2
theorem a4I {b:Nat}{st:List (Nat×Int)}(h:b≠41):closes b st=false:=by
 cases st with
 | nil=>rfl
 | cons x st=>simp[closes,h]
theorem c0F {s:List UInt8}{i i0:Nat}{toks:List Tok}{st:List (Nat×Int)}(h0:a0E s i0=i)(hi:i<s.length)(hq:(s.getD i 0).toNat=34)(ht:toks.length<3000) :
  stepM s ⟨i0,toks,st⟩=a1H toks st i i 4 5 (part s i st.length (i+1) []):=by
 have h1:decide (s.length<=i)=false:=by simp;omega
 have h2:decide (3000<=toks.length)=false:=by simp;omega
 simp only[stepM,h0,h1,a4I (st:=st) (b:=(s.getD i 0).toNat) (by omega),hq,decide_true,roomy,h2]
 rw[hq]at *
 simp only[a4I (st:=st) (b:=34) (by omega)]
theorem a6k {s:List UInt8}{i i0 q:Nat}{toks:List Tok}{st:List (Nat×Int)}(h0:a0E s i0=i)(hi:i<s.length)(hq:(s.getD i 0).toNat=41) :
  stepM s ⟨i0,toks,(q,0)::st⟩=roomy toks i (a1H toks st q i 7 6 (part s q st.length (i+1) [])):=by
 have h1:decide (s.length<=i)=false:=by simp;omega
 simp only[stepM,h0,h1,closes,hq,decide_true,Bool.and_self]
structure LS where
 X:MS
 first:Bool
 text:List UInt8
 w:Nat
 j:Nat
 frm:Nat
 toks:List Tok
 e:Nat
end Go.Proofs.YtjhfloacokgdiaaGreatDoor.Sc
namespace Go.Proofs.YtjhfloacokgdiaaGreatDoor.Sc
open Go Go.Vm
section
variable {s:List UInt8} {q ins j:Nat} {text:List UInt8}
theorem part_end (h:s.length<=j):part s q ins j text=.err 11 q:=by
 have h1:(decide (j<s.length)&&decide (32 <=(s.getD j 0).toNat))=false:=by rw[Bool.and_eq_false_iff,decide_eq_false_iff_not];exact .inl (by omega)
 rw[a5P];simp only[h1]
theorem part_low (h:(s.getD j 0).toNat<32):part s q ins j text=.err 11 q:=by
 have h1:(decide (j<s.length)&&decide (32 <=(s.getD j 0).toNat))=false:=by rw[Bool.and_eq_false_iff,decide_eq_false_iff_not,decide_eq_false_iff_not];exact .inr (by omega)
 rw[a5P];simp only[h1]
variable (h:j<s.length) (h2:32 <=(s.getD j 0).toNat)
include h h2
theorem a7M:(decide (j<s.length)&&decide (32 <=(s.getD j 0).toNat))=true:=by rw[Bool.and_eq_true,decide_eq_true_eq,decide_eq_true_eq];exact⟨h,h2⟩
theorem b5T (h3:(s.getD j 0).toNat=34):part s q ins j text=.fin text (j+1):=by
 rw[a5P,a7M h h2];simp only[decide_eq_true h3]
theorem b7k (h3:(s.getD j 0).toNat≠34)(h4:(s.getD j 0).toNat≠92):part s q ins j text=part s q ins (j+1) (text++[s.getD j 0]):=by
 rw[a5P,a7M h h2];simp only[decide_eq_false h3,decide_eq_false h4]
variable (h4:(s.getD j 0).toNat=92)
include h4
theorem a5K:decide ((s.getD j 0).toNat=34)=false:=decide_eq_false (by omega)
theorem part_n (h5:(s.getD (j+1) 0).toNat=110):part s q ins j text=part s q ins (j+2) (text++[10]):=by
 rw[a5P,a7M h h2];simp only[a5K h h2 h4,decide_eq_true h4,decide_eq_true h5]
theorem part_t (h5:(s.getD (j+1) 0).toNat=116):part s q ins j text=part s q ins (j+2) (text++[9]):=by
 have h6:decide ((s.getD (j+1) 0).toNat=110)=false:=decide_eq_false (by omega)
 rw[a5P,a7M h h2];simp only[a5K h h2 h4,decide_eq_true h4,h6,decide_eq_true h5]
theorem b1k (h5:(s.getD (j+1) 0).toNat=92∨(s.getD (j+1) 0).toNat=34):part s q ins j text=part s q ins (j+2) (text++[s.getD (j+1) 0]):=by
 have h6:decide ((s.getD (j+1) 0).toNat=110)=false:=decide_eq_false (by omega)
 have h7:decide ((s.getD (j+1) 0).toNat=116)=false:=decide_eq_false (by omega)
 have h8:(decide ((s.getD (j+1) 0).toNat=92)||decide ((s.getD (j+1) 0).toNat=34))=true:=by rw[Bool.or_eq_true,decide_eq_true_eq,decide_eq_true_eq];exact h5
 rw[a5P,a7M h h2];simp only[a5K h h2 h4,decide_eq_true h4,h6,h7,h8]
theorem b7l (h5:(s.getD (j+1) 0).toNat=40)(h9:3<=ins):part s q ins j text=.err 15 j:=by
 have h6:decide ((s.getD (j+1) 0).toNat=110)=false:=decide_eq_false (by omega)
 have h7:decide ((s.getD (j+1) 0).toNat=116)=false:=decide_eq_false (by omega)
 have h8:(decide ((s.getD (j+1) 0).toNat=92)||decide ((s.getD (j+1) 0).toNat=34))=false:=by rw[Bool.or_eq_false_iff,decide_eq_false_iff_not,decide_eq_false_iff_not];omega
 rw[a5P,a7M h h2];simp only[a5K h h2 h4,decide_eq_true h4,h6,h7,h8,decide_eq_true h5,decide_eq_true h9]
theorem b3E (h5:(s.getD (j+1) 0).toNat=40)(h9:¬3<=ins):part s q ins j text=.more text (j+2):=by
 have h6:decide ((s.getD (j+1) 0).toNat=110)=false:=decide_eq_false (by omega)
 have h7:decide ((s.getD (j+1) 0).toNat=116)=false:=decide_eq_false (by omega)
 have h8:(decide ((s.getD (j+1) 0).toNat=92)||decide ((s.getD (j+1) 0).toNat=34))=false:=by rw[Bool.or_eq_false_iff,decide_eq_false_iff_not,decide_eq_false_iff_not];omega
 rw[a5P,a7M h h2];simp only[a5K h h2 h4,decide_eq_true h4,h6,h7,h8,decide_eq_true h5,decide_eq_false h9]
theorem part_bad (h5:(s.getD (j+1) 0).toNat≠110)(h6:(s.getD (j+1) 0).toNat≠116)(h7:(s.getD (j+1) 0).toNat≠92)(h8:(s.getD (j+1) 0).toNat≠34)(h9:(s.getD (j+1) 0).toNat≠40):part s q ins j text=.err 12 j:=by
 have h10:(decide ((s.getD (j+1) 0).toNat=92)||decide ((s.getD (j+1) 0).toNat=34))=false:=by rw[Bool.or_eq_false_iff,decide_eq_false_iff_not,decide_eq_false_iff_not];omega
 rw[a5P,a7M h h2];simp only[a5K h h2 h4,decide_eq_true h4,decide_eq_false h5,decide_eq_false h6,h10,decide_eq_false h9]
end
end Go.Proofs.YtjhfloacokgdiaaGreatDoor.Sc
