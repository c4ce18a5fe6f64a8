/- Texts of ParseParens, joined. -/
import Derived.Test.YtjhfloacokgdiaaGreatDoorParseParensJ22
set_option maxRecDepth 100000
set_option maxHeartbeats 20000000
set_option linter.unusedSimpArgs false
set_option linter.unusedVariables false
set_option linter.unusedSectionVars false
namespace Go.Proofs.YtjhfloacokgdiaaGreatDoor
open Go Go.Vm
def PX (x:Nod)(w:List WK):Prop:=w.length+1<=8*x.sz /\ ∀n ws,20*x.sz+20<=n->ws.length+8*x.sz<=500001 ->(j4.fs n).D9 x ws=some (ws++sp w)
def PU (x:Nod)(w:List WK):Prop:=w.length+1<=8*x.sz /\ ∀n ws,20*x.sz+15<=n->ws.length+8*x.sz<=500001 ->(j4.fs n).a0c x ws=some (ws++sp w)
def PS (x:Nod)(w:List WK):Prop:=w.length+1<=8*x.sz /\ ∀n ws,20*x.sz+20<=n->ws.length+8*x.sz<=500001 ->(j4.fs n).O7 x ws=some (ws++sp w)
def PB (x:Nod)(w:List WK):Prop:=w.length+1<=8*x.sz /\ ∀n ws,20*x.sz+20<=n->ws.length+8*x.sz<=500001 ->(j4.fs n).O1 x ws=some (ws++sp w)
def PT (x:Nod)(w:List WK):Prop:=w.length+1<=8*x.sz /\ ∀n ws,20*x.sz+20<=n->ws.length+8*x.sz<=500001 ->(o9.fs n).R4 x ws=some (ws++sp w)
def PM (x:Nod)(w:List WK):Prop:=w.length+1<=8*x.sz /\ ∀n ws,20*x.sz+20<=n->ws.length+8*x.sz<=500001->a0k n x ws=some (ws++sp w)
theorem prt {P:Prop}(x:P:=by
 simp (disch:=(first|omega |(simp only[WL];omega))) only[NF,CD,a5Y,Int.reduceEq,decide_true,decide_false,b5Z,typ_v,kid0,kid1,rest1,R,SPL,SPQ,List.append_assoc,List.cons_append,List.nil_append,List.append_nil]):P:=x
theorem c8 (x:Nod)(r:List Nod):(fun l=>8*szN l) (x::r) =(fun x=>8*x.sz) x+(fun l=>8*szN l) r:=by simp only[szN];omega
def cw (vs:List (List WK)):List WK:=(8,[40]) ::(jo vs++[(8,[41])])
theorem b8H {l:List Nod}{vs:List (List WK)}(h:a1e PX l vs):(jo vs).length<=8*szN l /\ ∀n ws,20*szN l+30<=n->ws.length+8*szN l<=500000->szN l<=100000000 ->(j4.fs n).a0m l ws=some (ws++sp (jo vs)):=by
 have hl:=a1y l
 refine⟨(b65 (R:=PX) (c:=fun x=>8*x.sz) (S:=fun l=>8*szN l) rfl c8 (fun x w h=>h.1) h).1,fun n ws hn hw hz=>?_⟩
 obtain⟨n,rfl⟩:∃m,n=m+1:=⟨n-1,by omega⟩
 exact lp_j (R:=PX) (c:=fun x=>8*x.sz) (S:=fun l=>8*szN l) c8 (fun x w h=>h.1) (L:=fun m i ws=>a2f n (j4.fs n) l m i ws) (by omega) (fun m i x w ws hx hR e1 e2 e3 e4 hb=>by
  have:=a5r hx
  have R:=hR.2 n
  rw[a2f.eq_2,e1,e2]
  rcases e4 with⟨rfl,e4⟩ |⟨hi,e4⟩
  ·have R:=And.intro (fun ws h=>R ws (by omega) h) (And.intro e4 e3)
   rw[if_pos rfl]
   exact prt
  ·have R:=And.intro (fun ws h=>R ws (by omega) h) (And.intro e4 e3)
   rw[if_neg (by omega)]
   exact prt) (fun m ws e=>by
  rw[a2f.eq_2,e];rfl) h (by omega) hw
theorem a5Q {l:List Nod}{vs:List (List WK)}(h:a1e PX l vs):(cw vs).length<=8*szN l+2 /\ ∀n ws,20*szN l+40<=n->ws.length+8*szN l+4<=500000->szN l<=100000000 ->(j4.fs n).R7 l ws=some (ws++sp (cw vs)):=by
 obtain⟨h1,h2⟩:=b8H h
 refine⟨by unfold cw;simp only[WL];omega,fun n ws hn hw hz=>?_⟩
 obtain⟨n,rfl⟩:∃m,n=m+1:=⟨n-1,by omega⟩
 have R:=fun ws h=>h2 n ws (by omega) h hz
 show a1S n (j4.fs n) l ws=_
 unfold a1S cw
 exact prt
def rwd (x:Nod)(w:List WK):List WK:=cond (eqB x.op 61||eqB x.op 63||eqB x.op 66||eqB x.op 65) ((8,[40]) ::(w++[(8,[41])])) w
theorem b8I {x:Nod}{w:List WK}(h:PX x w):(rwd x w).length+1<=8*x.sz+2 /\ ∀n ws,20*x.sz+25<=n->ws.length+8*x.sz+4<=500000 ->(j4.fs n).R6 x ws=some (ws++sp (rwd x w)):=by
 obtain⟨h1,h2⟩:=h
 refine⟨by unfold rwd;cases(eqB x.op 61||eqB x.op 63||eqB x.op 66||eqB x.op 65)<;>simp only[NF,WL]<;>omega,fun n ws hn hw=>?_⟩
 obtain⟨n,rfl⟩:∃m,n=m+1:=⟨n-1,by omega⟩
 have R:=fun ws h=>h2 n ws (by omega) h
 show a0Z n (j4.fs n) x ws=_
 unfold a0Z rwd
 cases e1:eqB x.op 61<;>cases e2:eqB x.op 63<;>cases e3:eqB x.op 66<;>cases e4:eqB x.op 65<;>simp only[Bool.or_false,Bool.false_or,Bool.or_true,Bool.true_or]<;>exact prt
theorem px_tru {a:Int} :PX ⟨51,[],1,zT,[],[],a⟩ ([(9,[116,114,117,101])]):=by
 refine⟨by simp only[SZ,WL]at *;omega,fun n ws hn hw=>?_⟩
 simp only[SZ]at hn hw
 obtain⟨n,rfl⟩:∃m,n=m+1:=⟨n-1,by omega⟩
 have R:=show ∀ws,U5 1 ws=l6 [[116,114,117,101]] ws from fun ws=>by unfold U5;rw[a0C rfl];simp only[NF];cases l6 [[116,114,117,101]] ws<;>rfl
 show A9 n (j4.fs n) _ ws=_
 unfold A9
 exact prt
theorem px_fal {a:Int} :PX ⟨51,[],0,zT,[],[],a⟩ ([(9,[102,97,108,115,101])]):=by
 refine⟨by simp only[SZ,WL]at *;omega,fun n ws hn hw=>?_⟩
 simp only[SZ]at hn hw
 obtain⟨n,rfl⟩:∃m,n=m+1:=⟨n-1,by omega⟩
 have R:=show ∀ws,U5 0 ws=l6 [[102,97,108,115,101]] ws from fun ws=>by unfold U5;rw[a1G (by omega)];simp only[NF];cases l6 [[102,97,108,115,101]] ws<;>rfl
 show A9 n (j4.fs n) _ ws=_
 unfold A9
 exact prt
theorem px_text {a:Int}{s:Str}(hs:s.length<=20000):PX ⟨52,s,0,zT,[],[],a⟩ ([(4,s)]):=by
 refine⟨by simp only[SZ,WL]at *;omega,fun n ws hn hw=>?_⟩
 simp only[SZ]at hn hw
 obtain⟨n,rfl⟩:∃m,n=m+1:=⟨n-1,by omega⟩
 have R:=And.intro (esc_v hs) (b4I hs 34 [34] (by simp))
 show A9 n (j4.fs n) _ ws=_
 unfold A9
 exact prt
theorem px_name {a:Int}{s:Str} :PX ⟨54,s,0,zT,[],[],a⟩ ([(1,s)]):=by
 refine⟨by simp only[SZ,WL]at *;omega,fun n ws hn hw=>?_⟩
 simp only[SZ]at hn hw
 obtain⟨n,rfl⟩:∃m,n=m+1:=⟨n-1,by omega⟩
 have R:=True.intro
 show A9 n (j4.fs n) _ ws=_
 unfold A9
 exact prt
theorem px_cons {a:Int}{s:Str} :PX ⟨61,s,0,zT,[],[],a⟩ ([(9,[99,111,110,115,117,109,101]),(1,s)]):=by
 refine⟨by simp only[SZ,WL]at *;omega,fun n ws hn hw=>?_⟩
 simp only[SZ]at hn hw
 obtain⟨n,rfl⟩:∃m,n=m+1:=⟨n-1,by omega⟩
 have R:=True.intro
 show A9 n (j4.fs n) _ ws=_
 unfold A9
 exact prt
theorem px_lend {a:Int}{x:Nod}{w:List WK}(h:PX x w):PX ⟨62,[],0,zT,[],[x],a⟩ ((8,[38])::w):=by
 have h0:=h.1
 refine⟨by simp only[SZ,WL]at *;omega,fun n ws hn hw=>?_⟩
 simp only[SZ]at hn hw
 obtain⟨n,rfl⟩:∃m,n=m+1:=⟨n-1,by omega⟩
 have R:=(fun ws q_=>h.2 n ws (by omega) q_)
 show A9 n (j4.fs n) _ ws=_
 unfold A9
 exact prt
theorem px_not {a:Int}{x:Nod}{w:List WK}(h:PX x w):PX ⟨65,[],0,zT,[],[x],a⟩ ((8,[33])::w):=by
 have h0:=h.1
 refine⟨by simp only[SZ,WL]at *;omega,fun n ws hn hw=>?_⟩
 simp only[SZ]at hn hw
 obtain⟨n,rfl⟩:∃m,n=m+1:=⟨n-1,by omega⟩
 have R:=(fun ws q_=>h.2 n ws (by omega) q_)
 show A9 n (j4.fs n) _ ws=_
 unfold A9
 exact prt
theorem px_neg {a:Int}{x:Nod}{w:List WK}(h:PX x w):PX ⟨66,[],0,zT,[],[x],a⟩ ((8,[45])::w):=by
 have h0:=h.1
 refine⟨by simp only[SZ,WL]at *;omega,fun n ws hn hw=>?_⟩
 simp only[SZ]at hn hw
 obtain⟨n,rfl⟩:∃m,n=m+1:=⟨n-1,by omega⟩
 have R:=(fun ws q_=>h.2 n ws (by omega) q_)
 show A9 n (j4.fs n) _ ws=_
 unfold A9
 exact prt
theorem px_bin {a:Int}{s:Str}{x y:Nod}{w v:List WK}(h:PX x w)(g:PX y v):PX ⟨64,s,0,zT,[],[x,y],a⟩ ((8,[40]) ::(w ++((8,s) ::(v++[(8,[41])])))):=by
 have h0:=h.1
 have g0:=g.1
 refine⟨by simp only[SZ,WL]at *;omega,fun n ws hn hw=>?_⟩
 simp only[SZ]at hn hw
 obtain⟨n,rfl⟩:∃m,n=m+1:=⟨n-1,by omega⟩
 have R:=(And.intro (fun ws q_=>h.2 n ws (by omega) q_) (fun ws q_=>g.2 n ws (by omega) q_))
 show A9 n (j4.fs n) _ ws=_
 unfold A9
 exact prt
theorem px_elist {a:Int}{l:List Nod}{vs:List (List WK)}(h:a1e PX l vs):PX ⟨67,[],0,zT,[],l,a⟩ ((8,[91]) ::(jo vs++[(8,[93])])):=by
 have h0:=(b8H h).1
 refine⟨by simp only[SZ,WL]at *;omega,fun n ws hn hw=>?_⟩
 simp only[SZ]at hn hw
 obtain⟨n,rfl⟩:∃m,n=m+1:=⟨n-1,by omega⟩
 have R:=(fun ws q_=>(b8H h).2 n ws (by omega) q_ (by omega))
 show A9 n (j4.fs n) _ ws=_
 unfold A9
 exact prt
theorem pu_field {a:Int}{s:Str}{x:Nod}{w:List WK}(h:PX x w):PU ⟨55,s,0,zT,[],[x],a⟩ (rwd x w++[(8,[46]),(1,s)]):=by
 have h0:=(b8I h).1
 refine⟨by simp only[SZ,WL]at *;omega,fun n ws hn hw=>?_⟩
 simp only[SZ]at hn hw
 obtain⟨n,rfl⟩:∃m,n=m+1:=⟨n-1,by omega⟩
 have R:=(fun ws q_=>(b8I h).2 n ws (by omega) q_)
 show K7 n (j4.fs n) _ ws=_
 unfold K7
 exact prt
theorem pu_call {a:Int}{s:Str}{l:List Nod}{vs:List (List WK)}(h:a1e PX l vs):PU ⟨56,s,0,zT,[],l,a⟩ ((1,s)::cw vs):=by
 have h0:=(a5Q h).1
 refine⟨by simp only[SZ,WL]at *;omega,fun n ws hn hw=>?_⟩
 simp only[SZ]at hn hw
 obtain⟨n,rfl⟩:∃m,n=m+1:=⟨n-1,by omega⟩
 have R:=(fun ws q_=>(a5Q h).2 n ws (by omega) q_ (by omega))
 show K7 n (j4.fs n) _ ws=_
 unfold K7
 exact prt
theorem c5b {a:Int}{s:Str}{x:Nod}{w:List WK}{l:List Nod}{vs:List (List WK)}(h:PX x w)(g:a1e PX l vs):PU ⟨57,s,0,zT,[],x::l,a⟩ (rwd x w ++((8,[46]) ::(1,s)::cw vs)):=by
 have h0:=(b8I h).1
 have g0:=(a5Q g).1
 refine⟨by simp only[SZ,WL]at *;omega,fun n ws hn hw=>?_⟩
 simp only[SZ]at hn hw
 obtain⟨n,rfl⟩:∃m,n=m+1:=⟨n-1,by omega⟩
 have R:=(And.intro (fun ws q_=>(b8I h).2 n ws (by omega) q_) (fun ws q_=>(a5Q g).2 n ws (by omega) q_ (by omega)))
 show K7 n (j4.fs n) _ ws=_
 unfold K7
 exact prt
theorem pu_stat0 {a:Int}{s:Str}{t:Typ} :PU ⟨58,s,0,t,[],[],a⟩ (W t++[(8,[46]),(1,s)]):=by
 have t0:=a6Y t.sz t (Nat.le_refl _)
 refine⟨by simp only[SZ,WL]at *;omega,fun n ws hn hw=>?_⟩
 simp only[SZ]at hn hw
 obtain⟨n,rfl⟩:∃m,n=m+1:=⟨n-1,by omega⟩
 have R:=True.intro
 show K7 n (j4.fs n) _ ws=_
 unfold K7
 exact prt
theorem pu_stat1 {a:Int}{s:Str}{t:Typ}{l:List Nod}{vs:List (List WK)}(h:a1e PX l vs):PU ⟨58,s,1,t,[],l,a⟩ (W t ++((8,[46]) ::(1,s)::cw vs)):=by
 have t0:=a6Y t.sz t (Nat.le_refl _)
 have h0:=(a5Q h).1
 refine⟨by simp only[SZ,WL]at *;omega,fun n ws hn hw=>?_⟩
 simp only[SZ]at hn hw
 obtain⟨n,rfl⟩:∃m,n=m+1:=⟨n-1,by omega⟩
 have R:=(fun ws q_=>(a5Q h).2 n ws (by omega) q_ (by omega))
 show K7 n (j4.fs n) _ ws=_
 unfold K7
 exact prt
theorem pu_make {a:Int}{t:Typ}{l:List Nod}{vs:List (List WK)}(h:a1e PX l vs):PU ⟨59,[],0,t,[],l,a⟩ (W t++cw vs):=by
 have t0:=a6Y t.sz t (Nat.le_refl _)
 have h0:=(a5Q h).1
 refine⟨by simp only[SZ,WL]at *;omega,fun n ws hn hw=>?_⟩
 simp only[SZ]at hn hw
 obtain⟨n,rfl⟩:∃m,n=m+1:=⟨n-1,by omega⟩
 have R:=(fun ws q_=>(a5Q h).2 n ws (by omega) q_ (by omega))
 show K7 n (j4.fs n) _ ws=_
 unfold K7
 exact prt
theorem pu_apply {a:Int}{x:Nod}{w:List WK}{l:List Nod}{vs:List (List WK)}(h:PX x w)(g:a1e PX l vs):PU ⟨60,[],0,zT,[],x::l,a⟩ ((8,[40]) ::(w ++((8,[41])::cw vs))):=by
 have h0:=h.1
 have g0:=(a5Q g).1
 refine⟨by simp only[SZ,WL]at *;omega,fun n ws hn hw=>?_⟩
 simp only[SZ]at hn hw
 obtain⟨n,rfl⟩:∃m,n=m+1:=⟨n-1,by omega⟩
 have R:=(And.intro (fun ws q_=>h.2 n ws (by omega) q_) (fun ws q_=>(a5Q g).2 n ws (by omega) q_ (by omega)))
 show K7 n (j4.fs n) _ ws=_
 unfold K7
 exact prt
theorem b2o {x:Nod}{w:List WK}(ho:x.op=55∨x.op=56∨x.op=57∨x.op=58∨x.op=59∨x.op=60)(h:PU x w):PX x w:=by
 refine⟨h.1,fun n ws hn hw=>?_⟩
 obtain⟨n,rfl⟩:∃m,n=m+1:=⟨n-1,by omega⟩
 have R:=fun ws g=>h.2 n ws (by omega) g
 show A9 n (j4.fs n) _ ws=_
 unfold A9
 rcases ho with e|e|e|e|e|e<;>simp only[e]<;>exact prt
theorem ps_let0 {a:Int}{s:Str}{t:Typ}(ht:t.kind≠0):PS ⟨21,s,1,t,[],[],a⟩ ((9,[118,97,114]) ::(1,s) ::(8,[58]) ::(W t++[(8,[59])])):=by
 have t0:=a6Y t.sz t (Nat.le_refl _)
 refine⟨by simp only[SZ,WL]at *;omega,fun n ws hn hw=>?_⟩
 simp only[SZ]at hn hw
 obtain⟨n,rfl⟩:∃m,n=m+1:=⟨n-1,by omega⟩
 have R:=And.intro ht (show ltB 0 ((([]:List Nod).length:Nat):Int)=false from a1j (by simp))
 show o6 n (j4.fs n) _ ws=_
 unfold o6
 exact prt
theorem ps_letu0 {a:Int}{s:Str}{x:Nod}{w:List WK}(h:PX x w):PS ⟨21,s,0,zT,[],[x],a⟩ ((9,[108,101,116]) ::(1,s) ::(8,[61]) ::(w++[(8,[59])])):=by
 have h0:=h.1
 refine⟨by simp only[SZ,WL]at *;omega,fun n ws hn hw=>?_⟩
 simp only[SZ]at hn hw
 obtain⟨n,rfl⟩:∃m,n=m+1:=⟨n-1,by omega⟩
 have R:=And.intro (show ltB 0 ((([x]:List Nod).length:Nat):Int)=true from a0v (by simp)) (And.intro (show idx' [x] 0=some x from a0S (l:=[x]) (i:=0) Nat.zero_lt_one) (fun ws q_=>h.2 n ws (by omega) q_))
 show o6 n (j4.fs n) _ ws=_
 unfold o6
 exact prt
theorem ps_lett0 {a:Int}{s:Str}{t:Typ}{x:Nod}{w:List WK}(ht:t.kind≠0)(h:PX x w):PS ⟨21,s,0,t,[],[x],a⟩ ((9,[108,101,116]) ::(1,s) ::(8,[58]) ::(W t ++((8,[61]) ::(w++[(8,[59])])))):=by
 have t0:=a6Y t.sz t (Nat.le_refl _)
 have h0:=h.1
 refine⟨by simp only[SZ,WL]at *;omega,fun n ws hn hw=>?_⟩
 simp only[SZ]at hn hw
 obtain⟨n,rfl⟩:∃m,n=m+1:=⟨n-1,by omega⟩
 have R:=And.intro ht (And.intro (show ltB 0 ((([x]:List Nod).length:Nat):Int)=true from a0v (by simp)) (And.intro (show idx' [x] 0=some x from a0S (l:=[x]) (i:=0) Nat.zero_lt_one) (fun ws q_=>h.2 n ws (by omega) q_)))
 show o6 n (j4.fs n) _ ws=_
 unfold o6
 exact prt
theorem ps_letu1 {a:Int}{s:Str}{x:Nod}{w:List WK}(h:PX x w):PS ⟨21,s,1,zT,[],[x],a⟩ ((9,[118,97,114]) ::(1,s) ::(8,[61]) ::(w++[(8,[59])])):=by
 have h0:=h.1
 refine⟨by simp only[SZ,WL]at *;omega,fun n ws hn hw=>?_⟩
 simp only[SZ]at hn hw
 obtain⟨n,rfl⟩:∃m,n=m+1:=⟨n-1,by omega⟩
 have R:=And.intro (show ltB 0 ((([x]:List Nod).length:Nat):Int)=true from a0v (by simp)) (And.intro (show idx' [x] 0=some x from a0S (l:=[x]) (i:=0) Nat.zero_lt_one) (fun ws q_=>h.2 n ws (by omega) q_))
 show o6 n (j4.fs n) _ ws=_
 unfold o6
 exact prt
theorem ps_lett1 {a:Int}{s:Str}{t:Typ}{x:Nod}{w:List WK}(ht:t.kind≠0)(h:PX x w):PS ⟨21,s,1,t,[],[x],a⟩ ((9,[118,97,114]) ::(1,s) ::(8,[58]) ::(W t ++((8,[61]) ::(w++[(8,[59])])))):=by
 have t0:=a6Y t.sz t (Nat.le_refl _)
 have h0:=h.1
 refine⟨by simp only[SZ,WL]at *;omega,fun n ws hn hw=>?_⟩
 simp only[SZ]at hn hw
 obtain⟨n,rfl⟩:∃m,n=m+1:=⟨n-1,by omega⟩
 have R:=And.intro ht (And.intro (show ltB 0 ((([x]:List Nod).length:Nat):Int)=true from a0v (by simp)) (And.intro (show idx' [x] 0=some x from a0S (l:=[x]) (i:=0) Nat.zero_lt_one) (fun ws q_=>h.2 n ws (by omega) q_)))
 show o6 n (j4.fs n) _ ws=_
 unfold o6
 exact prt
theorem c5a {a:Int}{x y:Nod}{w v:List WK}(h:PX x w)(g:PX y v):PS ⟨22,[],0,zT,[],[x,y],a⟩ (w ++((8,[61]) ::(v++[(8,[59])]))):=by
 have h0:=h.1
 have g0:=g.1
 refine⟨by simp only[SZ,WL]at *;omega,fun n ws hn hw=>?_⟩
 simp only[SZ]at hn hw
 obtain⟨n,rfl⟩:∃m,n=m+1:=⟨n-1,by omega⟩
 have R:=(And.intro (fun ws q_=>h.2 n ws (by omega) q_) (fun ws q_=>g.2 n ws (by omega) q_))
 show o6 n (j4.fs n) _ ws=_
 unfold o6
 exact prt
theorem ps_sole {a:Int}{x:Nod}{w:List WK}(h:PX x w):PS ⟨23,[],0,zT,[],[x],a⟩ (w++[(8,[59])]):=by
 have h0:=h.1
 refine⟨by simp only[SZ,WL]at *;omega,fun n ws hn hw=>?_⟩
 simp only[SZ]at hn hw
 obtain⟨n,rfl⟩:∃m,n=m+1:=⟨n-1,by omega⟩
 have R:=(fun ws q_=>h.2 n ws (by omega) q_)
 show o6 n (j4.fs n) _ ws=_
 unfold o6
 exact prt
theorem ps_while {a:Int}{x y:Nod}{w v:List WK}(h:PX x w)(g:PB y v):PS ⟨25,[],0,zT,[],[x,y],a⟩ ((9,[119,104,105,108,101]) ::(w++v)):=by
 have h0:=h.1
 have g0:=g.1
 refine⟨by simp only[SZ,WL]at *;omega,fun n ws hn hw=>?_⟩
 simp only[SZ]at hn hw
 obtain⟨n,rfl⟩:∃m,n=m+1:=⟨n-1,by omega⟩
 have R:=(And.intro (fun ws q_=>h.2 n ws (by omega) q_) (fun ws q_=>g.2 n ws (by omega) q_))
 show o6 n (j4.fs n) _ ws=_
 unfold o6
 exact prt
theorem ps_if2 {a:Int}{x y:Nod}{w v:List WK}(h:PX x w)(g:PB y v):PS ⟨24,[],0,zT,[],[x,y],a⟩ ((9,[105,102]) ::(w++v)):=by
 have h0:=h.1
 have g0:=g.1
 refine⟨by simp only[SZ,WL]at *;omega,fun n ws hn hw=>?_⟩
 simp only[SZ]at hn hw
 obtain⟨n,rfl⟩:∃m,n=m+1:=⟨n-1,by omega⟩
 have R:=And.intro (fun ws q_=>h.2 n ws (by omega) q_) (And.intro (fun ws q_=>g.2 n ws (by omega) q_) (show ltB 2 ((([x,y]:List Nod).length:Nat):Int)=false from a1j (by simp)))
 show o6 n (j4.fs n) _ ws=_
 unfold o6
 exact prt
theorem ps_if3 {a:Int}{x y z:Nod}{w v u:List WK}(h:PX x w)(g:PB y v)(f:PB z u)(hz:z.op≠24):PS ⟨24,[],0,zT,[],[x,y,z],a⟩ ((9,[105,102]) ::(w ++(v ++((9,[101,108,115,101])::u)))):=by
 have h0:=h.1
 have g0:=g.1
 have f0:=f.1
 refine⟨by simp only[SZ,WL]at *;omega,fun n ws hn hw=>?_⟩
 simp only[SZ]at hn hw
 obtain⟨n,rfl⟩:∃m,n=m+1:=⟨n-1,by omega⟩
 have R:=And.intro (fun ws q_=>h.2 n ws (by omega) q_) (And.intro (fun ws q_=>g.2 n ws (by omega) q_) (And.intro (show ltB 2 ((([x,y,z]:List Nod).length:Nat):Int)=true from a0v (by simp)) (And.intro (show idx' [x,y,z] 2=some z from a0S (l:=[x,y,z]) (i:=2) (by simp)) (And.intro hz (fun ws q_=>f.2 n ws (by omega) q_)))))
 show o6 n (j4.fs n) _ ws=_
 unfold o6
 exact prt
theorem ps_if4 {a:Int}{x y z:Nod}{w v u:List WK}(h:PX x w)(g:PB y v)(f:PS z u)(hz:z.op=24):PS ⟨24,[],0,zT,[],[x,y,z],a⟩ ((9,[105,102]) ::(w ++(v ++((9,[101,108,115,101])::u)))):=by
 have h0:=h.1
 have g0:=g.1
 have f0:=f.1
 refine⟨by simp only[SZ,WL]at *;omega,fun n ws hn hw=>?_⟩
 simp only[SZ]at hn hw
 obtain⟨n,rfl⟩:∃m,n=m+1:=⟨n-1,by omega⟩
 have R:=And.intro (fun ws q_=>h.2 n ws (by omega) q_) (And.intro (fun ws q_=>g.2 n ws (by omega) q_) (And.intro (show ltB 2 ((([x,y,z]:List Nod).length:Nat):Int)=true from a0v (by simp)) (And.intro (show idx' [x,y,z] 2=some z from a0S (l:=[x,y,z]) (i:=2) (by simp)) (And.intro hz (fun ws q_=>f.2 n ws (by omega) q_)))))
 show o6 n (j4.fs n) _ ws=_
 unfold o6
 exact prt
theorem ps_ret0 {a:Int} :PS ⟨28,[],0,zT,[],[],a⟩ ([(9,[114,101,116,117,114,110]),(8,[59])]):=by
 refine⟨by simp only[SZ,WL]at *;omega,fun n ws hn hw=>?_⟩
 simp only[SZ]at hn hw
 obtain⟨n,rfl⟩:∃m,n=m+1:=⟨n-1,by omega⟩
 have R:=show ltB 0 ((([]:List Nod).length:Nat):Int)=false from a1j (by simp)
 show o6 n (j4.fs n) _ ws=_
 unfold o6
 exact prt
theorem ps_ret1 {a:Int}{x:Nod}{w:List WK}(h:PX x w):PS ⟨28,[],0,zT,[],[x],a⟩ ((9,[114,101,116,117,114,110]) ::(w++[(8,[59])])):=by
 have h0:=h.1
 refine⟨by simp only[SZ,WL]at *;omega,fun n ws hn hw=>?_⟩
 simp only[SZ]at hn hw
 obtain⟨n,rfl⟩:∃m,n=m+1:=⟨n-1,by omega⟩
 have R:=And.intro (show ltB 0 ((([x]:List Nod).length:Nat):Int)=true from a0v (by simp)) (And.intro (show idx' [x] 0=some x from a0S (l:=[x]) (i:=0) Nat.zero_lt_one) (fun ws q_=>h.2 n ws (by omega) q_))
 show o6 n (j4.fs n) _ ws=_
 unfold o6
 exact prt
theorem ps_throw {a:Int}{x:Nod}{w:List WK}(h:PX x w):PS ⟨29,[],0,zT,[],[x],a⟩ ((9,[116,104,114,111,119]) ::(w++[(8,[59])])):=by
 have h0:=h.1
 refine⟨by simp only[SZ,WL]at *;omega,fun n ws hn hw=>?_⟩
 simp only[SZ]at hn hw
 obtain⟨n,rfl⟩:∃m,n=m+1:=⟨n-1,by omega⟩
 have R:=(fun ws q_=>h.2 n ws (by omega) q_)
 show o6 n (j4.fs n) _ ws=_
 unfold o6
 exact prt
theorem ps_do {a:Int}{s:Str}{x y:Nod}{w v:List WK}(h:PB x w)(g:PB y v):PS ⟨30,s,0,zT,[],[x,y],a⟩ ((9,[100,111]) ::(w ++((9,[99,97,116,99,104]) ::(1,s)::v))):=by
 have h0:=h.1
 have g0:=g.1
 refine⟨by simp only[SZ,WL]at *;omega,fun n ws hn hw=>?_⟩
 simp only[SZ]at hn hw
 obtain⟨n,rfl⟩:∃m,n=m+1:=⟨n-1,by omega⟩
 have R:=(And.intro (fun ws q_=>h.2 n ws (by omega) q_) (fun ws q_=>g.2 n ws (by omega) q_))
 show o6 n (j4.fs n) _ ws=_
 unfold o6
 exact prt
theorem ps_defer {a:Int}{x:Nod}{w:List WK}(h:PB x w):PS ⟨31,[],0,zT,[],[x],a⟩ ((9,[100,101,102,101,114])::w):=by
 have h0:=h.1
 refine⟨by simp only[SZ,WL]at *;omega,fun n ws hn hw=>?_⟩
 simp only[SZ]at hn hw
 obtain⟨n,rfl⟩:∃m,n=m+1:=⟨n-1,by omega⟩
 have R:=(fun ws q_=>h.2 n ws (by omega) q_)
 show o6 n (j4.fs n) _ ws=_
 unfold o6
 exact prt
theorem pp_wild {a:Int} :PT ⟨40,[],0,zT,[],[],a⟩ ([(1,[95])]):=by
 refine⟨by simp only[SZ,WL]at *;omega,fun n ws hn hw=>?_⟩
 simp only[SZ]at hn hw
 obtain⟨n,rfl⟩:∃m,n=m+1:=⟨n-1,by omega⟩
 have R:=True.intro
 show E5 n (o9.fs n) _ ws=_
 unfold E5
 exact prt
theorem pp_bind {a:Int}{s:Str} :PT ⟨41,s,0,zT,[],[],a⟩ ([(1,s)]):=by
 refine⟨by simp only[SZ,WL]at *;omega,fun n ws hn hw=>?_⟩
 simp only[SZ]at hn hw
 obtain⟨n,rfl⟩:∃m,n=m+1:=⟨n-1,by omega⟩
 have R:=True.intro
 show E5 n (o9.fs n) _ ws=_
 unfold E5
 exact prt
theorem pp_tru {a:Int} :PT ⟨43,[],1,zT,[],[],a⟩ ([(9,[116,114,117,101])]):=by
 refine⟨by simp only[SZ,WL]at *;omega,fun n ws hn hw=>?_⟩
 simp only[SZ]at hn hw
 obtain⟨n,rfl⟩:∃m,n=m+1:=⟨n-1,by omega⟩
 have R:=show ∀ws,U5 1 ws=l6 [[116,114,117,101]] ws from fun ws=>by unfold U5;rw[a0C rfl];simp only[NF];cases l6 [[116,114,117,101]] ws<;>rfl
 show E5 n (o9.fs n) _ ws=_
 unfold E5
 exact prt
theorem pp_fal {a:Int} :PT ⟨43,[],0,zT,[],[],a⟩ ([(9,[102,97,108,115,101])]):=by
 refine⟨by simp only[SZ,WL]at *;omega,fun n ws hn hw=>?_⟩
 simp only[SZ]at hn hw
 obtain⟨n,rfl⟩:∃m,n=m+1:=⟨n-1,by omega⟩
 have R:=show ∀ws,U5 0 ws=l6 [[102,97,108,115,101]] ws from fun ws=>by unfold U5;rw[a1G (by omega)];simp only[NF];cases l6 [[102,97,108,115,101]] ws<;>rfl
 show E5 n (o9.fs n) _ ws=_
 unfold E5
 exact prt
theorem pp_text {a:Int}{s:Str}(hs:s.length<=20000):PT ⟨44,s,0,zT,[],[],a⟩ ([(4,s)]):=by
 refine⟨by simp only[SZ,WL]at *;omega,fun n ws hn hw=>?_⟩
 simp only[SZ]at hn hw
 obtain⟨n,rfl⟩:∃m,n=m+1:=⟨n-1,by omega⟩
 have R:=And.intro (esc_v hs) (b4I hs 34 [34] (by simp))
 show E5 n (o9.fs n) _ ws=_
 unfold E5
 exact prt
end Go.Proofs.YtjhfloacokgdiaaGreatDoor
namespace Go.Proofs.YtjhfloacokgdiaaGreatDoor
open Go Go.Vm
theorem c4B (r:Str)(d:UInt8)(a:Nat):a0B (r++[d]) a=a0B r a*10+(d.toNat-48):=by simp[a0B,List.foldl_append]
theorem c3i:∀(k:Nat) (s:Str),s.length=k->s ≠ [] ->(∀b∈s,48<=b.toNat/\b.toNat<=57) ->(1<s.length ->(s.headD 0).toNat≠48)->Lib.decDigits (a0B s 0)=s/\((s.headD 0).toNat≠48->1<=a0B s 0)
 | 0,s,h,h0,_,_=>absurd (List.length_eq_zero_iff.1 h) h0
 | k+1,s,h,h0,hd,hz=>by
  rcases List.eq_nil_or_concat s with e |⟨r,d,e⟩
  ·exact absurd e h0
  ·rw[List.concat_eq_append]at e
   subst e
   have hd1:=hd d (by simp)
   have ed:UInt8.ofNat (48+(d.toNat-48))=d:=by
    rw[show 48+(d.toNat-48)=d.toNat by omega]
    exact UInt8.ofNat_toNat
   rw[c4B]
   cases r with
   | nil =>
    have e0:a0B [] 0*10+(d.toNat-48)=d.toNat-48:=by simp[a0B]
    rw[e0]
    refine⟨by rw[Lib.decDigits,dif_pos (by omega),ed];rfl,fun h=>?_⟩
    have h:d.toNat≠48:=h
    omega
   | cons b r =>
    have hz:=hz (by simp)
    have hz:b.toNat≠48:=hz
    obtain⟨i1,i2⟩:=c3i k (b::r) (by simpa using h) (by simp) (fun c hc=>hd c (by simp at hc ⊢;rcases hc with hc|hc;exact .inl hc;exact .inr (.inl hc))) (fun _=>hz)
    have i2:=i2 hz
    rw[Lib.decDigits,dif_neg (by omega),show(a0B (b::r) 0*10+(d.toNat-48))/10=a0B (b::r) 0 by omega,show(a0B (b::r) 0*10+(d.toNat-48))%10=d.toNat-48 by omega,i1,ed]
    exact⟨rfl,fun _=>by omega⟩
structure NumW (s:Str):Prop where
 dec:Lib.decDigits (a0B s 0)=s
 max:a0B s 0<=9223372036854775807
theorem numw_of {s:Str}(h:Sc.IntW s):NumW s:=by
 obtain⟨h1,h2,c,h3⟩:=h
 have hb:=Sc.b2O ⟨h1,h2,c,h3⟩
 refine⟨(c3i s.length s rfl h1 (fun b hb=>by
  have:=h2 b hb
  simp only[Sc.U8,decide_eq_true_eq]at this
  exact⟨this.1,this.2⟩) (fun hl e=>?_)).1,?_⟩
 ·unfold Sc.a0H at h3
  simp only[Bool.or_eq_false_iff]at h3
  have h4:=h3.1.1.1
  rw[a0v (by omega),Bool.true_and]at h4
  have h5:(s.getD 0 0).toNat=48:=by
   cases s with
   | nil=>exact absurd rfl h1
   | cons b r=>exact e
  rw[a0C (by rw[h5];rfl)]at h4
  cases h4
 ·unfold b2H at hb
  simp only[Bool.and_eq_true]at hb
  have:=hb.2.2.2
  exact Nat.le_of_ble_eq_true this
theorem num_v {s:Str}(h:NumW s){ws:List Str}(hw:ws.length<=500001):Z8 ((a0B s 0:Nat):Int) ws=some (ws++[s]):=by
 have hm:=h.max
 have e1:b31 ((a0B s 0:Nat):Int)=some s:=by
  unfold b31 rngB
  rw[decide_eq_true (by omega),decide_eq_true (by omega)]
  simp only[Bool.and_self]
  rw[Lib.itoa_nonneg,h.dec]
 unfold Z8
 rw[e1,a1j (by omega)]
 simp only[NF]
 rw[b5Z (by simp only[List.length_singleton];omega)]
 rfl
theorem num_neg {s:Str}(h:NumW s)(h1:1<=a0B s 0){ws:List Str}(hw:ws.length<=500001):Z8 (w64 (0-((a0B s 0:Nat):Int))) ws=some (ws++[[45],s]):=by
 have hm:=h.max
 have e0:w64 (0-((a0B s 0:Nat):Int)) = -((a0B s 0:Nat):Int):=by rw[a5v (by omega) (by omega)];omega
 have e1:b31 (-((a0B s 0:Nat):Int))=some (45::s):=by
  unfold b31 rngB
  rw[decide_eq_true (by omega),decide_eq_true (by omega)]
  simp only[Bool.and_self]
  rw[Lib.itoa_neg _ h1,h.dec]
 have e2:subS (45::s) 1 (((45::s:Str).length:Nat):Int)=some s:=by
  have h:inI ((1:Nat):Int) (((45::s:Str).length:Nat):Int) (45::s:Str).length=true:=by simp[inI];omega
  simp only[subS]
  rw[show inI 1 (((45::s:Str).length:Nat):Int) (45::s:Str).length=true from h]
  simp
 rw[e0]
 unfold Z8
 rw[e1,a0v (by omega)]
 simp only[NF]
 rw[b5Z (by simp only[List.length_singleton];omega)]
 simp only[NF,e2]
 rw[b5Z (by simp only[List.length_append,List.length_singleton];omega)]
 simp
theorem num_zero {s:Str}(h:NumW s)(h1:a0B s 0=0){ws:List Str}(hw:ws.length<=500001):Z8 (w64 (0-((a0B s 0:Nat):Int))) ws=some (ws++[s]):=by
 have e:w64 (0-((a0B s 0:Nat):Int)) =((a0B s 0:Nat):Int):=by rw[h1];decide
 rw[e]
 exact num_v h hw
theorem px_int {s:Str}{a:Int}(h:NumW s):PX ⟨50,[],((a0B s 0:Nat):Int),zT,[],[],a⟩ [(3,s)]:=by
 refine⟨by simp only[SZ,WL];omega,fun n ws hn hw=>?_⟩
 simp only[SZ]at hn hw
 obtain⟨n,rfl⟩:∃m,n=m+1:=⟨n-1,by omega⟩
 have R:=fun(ws:List Str) (hw:ws.length<=500001)=>num_v h hw
 show A9 n (j4.fs n) _ ws=_
 unfold A9
 exact prt
theorem pp_int {s:Str}{a:Int}(h:NumW s):PT ⟨42,[],((a0B s 0:Nat):Int),zT,[],[],a⟩ [(3,s)]:=by
 refine⟨by simp only[SZ,WL];omega,fun n ws hn hw=>?_⟩
 simp only[SZ]at hn hw
 obtain⟨n,rfl⟩:∃m,n=m+1:=⟨n-1,by omega⟩
 have R:=fun(ws:List Str) (hw:ws.length<=500001)=>num_v h hw
 show E5 n (o9.fs n) _ ws=_
 unfold E5
 exact prt
theorem pp_neg {s:Str}{a:Int}(h:NumW s):PT ⟨42,[],w64 (0-((a0B s 0:Nat):Int)),zT,[],[],a⟩ (cond (decide (a0B s 0=0)) [(3,s)] [(8,[45]),(3,s)]):=by
 rcases Nat.eq_zero_or_pos (a0B s 0)with h0|h0
 ·rw[decide_eq_true h0]
  refine⟨by simp only[SZ,WL,NF];omega,fun n ws hn hw=>?_⟩
  simp only[SZ]at hn hw
  obtain⟨n,rfl⟩:∃m,n=m+1:=⟨n-1,by omega⟩
  have R:=fun(ws:List Str) (hw:ws.length<=500001)=>num_zero h h0 hw
  show E5 n (o9.fs n) _ ws=_
  unfold E5
  exact prt
 ·rw[decide_eq_false (by omega)]
  refine⟨by simp only[SZ,WL,NF];omega,fun n ws hn hw=>?_⟩
  simp only[SZ]at hn hw
  obtain⟨n,rfl⟩:∃m,n=m+1:=⟨n-1,by omega⟩
  have R:=fun(ws:List Str) (hw:ws.length<=500001)=>num_neg h h0 hw
  show E5 n (o9.fs n) _ ws=_
  unfold E5
  exact prt
theorem c30 {l:List Nod}{vs:List (List WK)}(h:a1e PT l vs):(jo vs).length<=8*szN l /\ ∀n ws,20*szN l+30<=n->ws.length+8*szN l<=500000->szN l<=100000000 ->(o9.fs n).Z4 l ws=some (ws++sp (jo vs)):=by
 have hl:=a1y l
 refine⟨(b65 (R:=PT) (c:=fun x=>8*x.sz) (S:=fun l=>8*szN l) rfl c8 (fun x w h=>h.1) h).1,fun n ws hn hw hz=>?_⟩
 obtain⟨n,rfl⟩:∃m,n=m+1:=⟨n-1,by omega⟩
 exact lp_j (R:=PT) (c:=fun x=>8*x.sz) (S:=fun l=>8*szN l) c8 (fun x w h=>h.1) (L:=fun m i ws=>a1m n (o9.fs n) l m i ws) (by omega) (fun m i x w ws hx hR e1 e2 e3 e4 hb=>by
  have:=a5r hx
  have R:=hR.2 n
  rw[a1m.eq_2,e1,e2]
  rcases e4 with⟨rfl,e4⟩ |⟨hi,e4⟩
  ·have R:=And.intro (fun ws h=>R ws (by omega) h) (And.intro e4 e3)
   rw[if_pos rfl]
   exact prt
  ·have R:=And.intro (fun ws h=>R ws (by omega) h) (And.intro e4 e3)
   rw[if_neg (by omega)]
   exact prt) (fun m ws e=>by
  rw[a1m.eq_2,e];rfl) h (by omega) hw
theorem pp_case0 {s:Str}{a:Int}:PT ⟨45,s,0,zT,[],[],a⟩ [(8,[46]),(1,s)]:=by
 refine⟨by simp only[SZ,WL];omega,fun n ws hn hw=>?_⟩
 simp only[SZ]at hn hw
 obtain⟨n,rfl⟩:∃m,n=m+1:=⟨n-1,by omega⟩
 have R:=show ltB 0 ((([]:List Nod).length:Nat):Int)=false from a1j (by simp)
 show E5 n (o9.fs n) _ ws=_
 unfold E5
 exact prt
theorem pp_case1 {s:Str}{a:Int}{l:List Nod}{vs:List (List WK)}(hl:l ≠ [])(h:a1e PT l vs):PT ⟨45,s,0,zT,[],l,a⟩ ((8,[46]) ::(1,s)::cw vs):=by
 have h0:=(c30 h).1
 refine⟨by unfold cw;simp only[SZ,WL]at *;omega,fun n ws hn hw=>?_⟩
 simp only[SZ]at hn hw
 obtain⟨n,rfl⟩:∃m,n=m+1:=⟨n-1,by omega⟩
 have R:=And.intro (show ltB 0 ((l.length:Nat):Int)=true from a0v (by have:=List.length_pos_iff.2 hl;omega)) (fun ws q_=>(c30 h).2 n ws (by omega) q_ (by omega))
 show E5 n (o9.fs n) _ ws=_
 unfold E5 cw
 exact prt
theorem pb_block {l:List Nod}{vs:List (List WK)}{a:Int}(h:a1e PS l vs):PB ⟨20,[],0,zT,[],l,a⟩ ((8,[123]) ::(vs.flatten++[(8,[125])])):=by
 have hl:=a1y l
 have h0:=(b65 (R:=PS) (c:=fun x=>8*x.sz) (S:=fun l=>8*szN l) rfl c8 (fun x w h=>h.1) h).2
 refine⟨by simp only[SZ,WL]at *;omega,fun n ws hn hw=>?_⟩
 simp only[SZ]at hn hw
 obtain⟨n,rfl⟩:∃m,n=m+1:=⟨n-1,by omega⟩
 have R:=fun(ws:List Str) (hw:ws.length+8*szN l<=500000)=>lp_f (R:=PS) (c:=fun x=>8*x.sz) (S:=fun l=>8*szN l) c8 (fun x w h=>h.1) (L:=fun m i ws=>a1p n (j4.fs n) ⟨20,[],0,zT,[],l,a⟩ m i ws) (fin:=some) (by omega) (fun m i x w ws hx hR e1 e2 e3 hb=>by
  have:=a5r hx
  have R:=hR.2 n
  have R:=And.intro (fun ws h=>R ws (by omega) h) e3
  rw[a1p.eq_2,e1,e2]
  exact prt) (fun m ws e=>by
  rw[a1p.eq_2,e];rfl) h (n:=n) (by omega) hw
 show a1E n (j4.fs n) _ ws=_
 unfold a1E
 exact prt
def PA (x:Nod)(w:List WK):Prop:=w.length+1<=8*x.sz /\ ∃p b u v a,x =⟨27,[],0,zT,[],[p,b],a⟩/\PT p u/\PB b v/\w =(9,[99,97,115,101]) ::(u++v)
theorem pa_arm {p b:Nod}{u v:List WK}{a:Int}(h:PT p u)(g:PB b v):PA ⟨27,[],0,zT,[],[p,b],a⟩ ((9,[99,97,115,101]) ::(u++v)):=by
 have h0:=h.1
 have g0:=g.1
 exact⟨by simp only[SZ,WL]at *;omega,p,b,u,v,a,rfl,h,g,rfl⟩
theorem ps_match {x:Nod}{w:List WK}{l:List Nod}{vs:List (List WK)}{a:Int}(h:PX x w)(g:a1e PA l vs):PS ⟨26,[],0,zT,[],x::l,a⟩ ((9,[109,97,116,99,104]) ::(w ++((8,[123]) ::(vs.flatten++[(8,[125])])))):=by
 have hl:=a1y l
 have h0:=h.1
 have g0:=(b65 (R:=PA) (c:=fun x=>8*x.sz) (S:=fun l=>8*szN l) rfl c8 (fun x w h=>h.1) g).2
 refine⟨by simp only[SZ,WL]at *;omega,fun n ws hn hw=>?_⟩
 simp only[SZ]at hn hw
 obtain⟨n,rfl⟩:∃m,n=m+1:=⟨n-1,by omega⟩
 have R:=And.intro (fun ws q_=>h.2 n ws (by omega) q_) (fun(ws:List Str) (hw:ws.length+8*szN l<=500000)=>lp_f (R:=PA) (c:=fun x=>8*x.sz) (S:=fun l=>8*szN l) c8 (fun x w h=>h.1) (L:=fun m i ws=>a0y n (j4.fs n) l m i ws) (fin:=some) (by omega) (fun m i x w ws hx hR e1 e2 e3 hb=>by
  have hz:=a5r hx
  obtain⟨_,p,b,u,v,a,rfl,k1,k2,rfl⟩:=hR
  have l1:=k1.1
  simp only[SZ]at hz hb
  have R:=And.intro (fun ws q_=>show R4 n p ws=_ from k1.2 n ws (by omega) q_) (And.intro (fun ws q_=>k2.2 n ws (by omega) q_) e3)
  rw[a0y.eq_2,e1,e2]
  exact prt) (fun m ws e=>by
  rw[a0y.eq_2,e];rfl) g (n:=n) (by omega) hw)
 show o6 n (j4.fs n) _ ws=_
 unfold o6
 exact prt
theorem c4X {s:Str}{t:Typ}{a:Int}:PM ⟨10,s,0,t,[],[],a⟩ ((1,s) ::(8,[58])::W t):=by
 have t0:=a6Y t.sz t (Nat.le_refl _)
 refine⟨by simp only[SZ,WL]at *;omega,fun n ws hn hw=>?_⟩
 simp only[SZ]at hn hw
 have R:=True.intro
 unfold a0k
 exact prt
theorem c4Y {s:Str}{t:Typ}{a:Int}:PM ⟨10,s,1,t,[],[],a⟩ ((9,[105,110,111,117,116]) ::(1,s) ::(8,[58])::W t):=by
 have t0:=a6Y t.sz t (Nat.le_refl _)
 refine⟨by simp only[SZ,WL]at *;omega,fun n ws hn hw=>?_⟩
 simp only[SZ]at hn hw
 have R:=True.intro
 unfold a0k
 exact prt
theorem c4Z {s:Str}{t:Typ}{a:Int}:PM ⟨10,s,2,t,[],[],a⟩ ((9,[99,111,110,115,117,109,101]) ::(1,s) ::(8,[58])::W t):=by
 have t0:=a6Y t.sz t (Nat.le_refl _)
 refine⟨by simp only[SZ,WL]at *;omega,fun n ws hn hw=>?_⟩
 simp only[SZ]at hn hw
 have R:=True.intro
 unfold a0k
 exact prt
theorem b7r {l:List Nod}{vs:List (List WK)}(h:a1e PM l vs):(cw vs).length<=8*szN l+2 /\ ∀n ws,20*szN l+40<=n->ws.length+8*szN l+4<=500000->szN l<=100000000->a1T n l ws=some (ws++sp (cw vs)):=by
 have hl:=a1y l
 have h1:=(b65 (R:=PM) (c:=fun x=>8*x.sz) (S:=fun l=>8*szN l) rfl c8 (fun x w h=>h.1) h).1
 refine⟨by unfold cw;simp only[WL];omega,fun n ws hn hw hz=>?_⟩
 have R:=fun(ws:List Str) (hw:ws.length+8*szN l<=500000)=>lp_j (R:=PM) (c:=fun x=>8*x.sz) (S:=fun l=>8*szN l) c8 (fun x w h=>h.1) (L:=fun m i ws=>a1l n l m i ws) (by omega) (fun m i x w ws hx hR e1 e2 e3 e4 hb=>by
  have:=a5r hx
  have R:=hR.2 n
  rw[a1l.eq_2,e1,e2]
  rcases e4 with⟨rfl,e4⟩ |⟨hi,e4⟩
  ·have R:=And.intro (fun ws h=>R ws (by omega) h) (And.intro e4 e3)
   rw[if_pos rfl]
   exact prt
  ·have R:=And.intro (fun ws h=>R ws (by omega) h) (And.intro e4 e3)
   rw[if_neg (by omega)]
   exact prt) (fun m ws e=>by
  rw[a1l.eq_2,e];rfl) h (n:=n) (by omega) hw
 unfold a1T a3k cw
 exact prt
def rsw (t:Typ):List WK:=cond (eqB t.kind 4) [] ((8,[45,62])::W t)
theorem rsw_v {t:Typ}:(rsw t).length<=8*t.sz /\ ∀(n:Nat) (ws:List Str),3*t.sz+4<=n->ws.length+8*t.sz+1<=500000->a1U n t ws=some (ws++sp (rsw t)):=by
 have t0:=a6Y t.sz t (Nat.le_refl _)
 unfold rsw a1U
 cases h:eqB t.kind 4
 ·refine⟨by simp only[NF,WL];omega,fun n ws hn hw=>?_⟩
  have R:=True.intro
  exact prt
 ·refine⟨by simp only[NF,WL];omega,fun n ws hn hw=>?_⟩
  have R:=True.intro
  exact prt
theorem px_clos {ps ss:List Nod}{t:Typ}{us vs:List (List WK)}{a b:Int}(hp:∀x∈ps,x.op=10)(h:a1e PM ps us)(g:a1e PS ss vs):PX ⟨63,[],0,t,[],ps++[⟨20,[],0,zT,[],ss,b⟩],a⟩ ((8,[123]) ::(cw us ++(rsw t ++((9,[105,110]) ::(vs.flatten++[(8,[125])]))))):=by
 have hlp:=a1y ps
 have hls:=a1y ss
 have h0:=(b7r h).1
 have r0:=(rsw_v (t:=t)).1
 have g0:=(b65 (R:=PS) (c:=fun x=>8*x.sz) (S:=fun l=>8*szN l) rfl c8 (fun x w h=>h.1) g).2
 refine⟨by simp only[SZ,WL]at *;omega,fun n ws hn hw=>?_⟩
 simp only[SZ]at hn hw
 obtain⟨n,rfl⟩:∃m,n=m+2:=⟨n-2,by omega⟩
 obtain⟨q,rfl⟩:∃q,n=q+2:=⟨n-2,by omega⟩
 have hlen:(ps++[(⟨20,[],0,zT,[],ss,b⟩:Nod)]).length=ps.length+1:=by simp
 have f1:(ps++[(⟨20,[],0,zT,[],ss,b⟩:Nod)]).filter (fun y=>eqB y.op 10)=ps:=by
  rw[List.filter_append,List.filter_eq_self.2 fun x hx=>a0C (hp x hx),List.filter_cons,if_neg (by rw[a1G (by simp)];simp)]
  simp
 have f2:(ps++[(⟨20,[],0,zT,[],ss,b⟩:Nod)]).filter (fun y=>eqB y.op 20)=[⟨20,[],0,zT,[],ss,b⟩]:=by
  rw[List.filter_append,List.filter_eq_nil_iff.2 fun x hx=>by rw[a1G (by rw[hp x hx];decide)];simp,List.filter_cons,if_pos (a0C rfl)]
  simp
 have o1:=ofs (n:=q+2) (x:=⟨63,[],0,t,[],ps++[⟨20,[],0,zT,[],ss,b⟩],a⟩) (o:=10) (by simp only[hlen];omega) (by simp only[hlen];omega)
 have o2:=ofs (n:=q+2) (x:=⟨63,[],0,t,[],ps++[⟨20,[],0,zT,[],ss,b⟩],a⟩) (o:=20) (by simp only[hlen];omega) (by simp only[hlen];omega)
 simp only[f1,f2]at o1 o2
 have L9:=fun(ws:List Str) (hw:ws.length+8*szN ss<=500000)=>lp_f (R:=PS) (c:=fun x=>8*x.sz) (S:=fun l=>8*szN l) c8 (fun x w h=>h.1) (L:=fun m i ws=>a0Y (q+2) (j4.fs (q+2)) ⟨20,[],0,zT,[],ss,b⟩ m 0 i ws) (fin:=fun ws=>some (0,ws)) (by omega) (fun m i x w ws hx hR e1 e2 e3 hb=>by
  have:=a5r hx
  have R:=hR.2 (q+2)
  have R:=And.intro (fun ws h=>R ws (by omega) h) e3
  rw[a0Y.eq_2,e1,e2]
  exact prt) (fun m ws e=>by
  rw[a0Y.eq_2,e];rfl) g (n:=q+2) (by omega) hw
 have L6:∀(ws:List Str),ws.length+8*szN ss<=500000->a0X (q+2) (j4.fs (q+2)) [⟨20,[],0,zT,[],ss,b⟩] (q+2) 0 ws=some (ws++sp vs.flatten):=fun ws hw=>by
  rw[a0X.eq_2,show ltB 0 ((([(⟨20,[],0,zT,[],ss,b⟩:Nod)]:List Nod).length:Nat):Int)=true from a0v (by simp),show idx' [(⟨20,[],0,zT,[],ss,b⟩:Nod)] 0=some ⟨20,[],0,zT,[],ss,b⟩from a0S (l:=[_]) (i:=0) Nat.zero_lt_one]
  simp only[NF,L9 ws hw]
  rw[show w64 (0+1)=1 by decide,a0X.eq_2,show ltB 1 ((([(⟨20,[],0,zT,[],ss,b⟩:Nod)]:List Nod).length:Nat):Int)=false from a1j (by simp)]
  rfl
 have R:=And.intro o1 (And.intro o2 (And.intro (fun ws q_=>(b7r h).2 (q+2) ws (by omega) q_ (by omega)) (And.intro (fun ws q_=>(rsw_v (t:=t)).2 (q+2) ws (by omega) q_) L6)))
 have hc:a1c (q+2) (j4.fs (q+2)) ⟨63,[],0,t,[],ps++[⟨20,[],0,zT,[],ss,b⟩],a⟩ ws=some (ws++sp ((8,[123]) ::(cw us ++(rsw t ++((9,[105,110]) ::(vs.flatten++[(8,[125])])))))):=by
  unfold a1c
  exact prt
 show A9 (q+3) (j4.fs (q+3)) _ ws=_
 have R:(j4.fs (q+3)).X4 ⟨63,[],0,t,[],ps++[⟨20,[],0,zT,[],ss,b⟩],a⟩ ws=_:=hc
 unfold A9
 simp only[a5Y,Int.reduceEq,decide_true,decide_false,NF]
 rw[R]
 rfl
end Go.Proofs.YtjhfloacokgdiaaGreatDoor
namespace Go.Proofs.YtjhfloacokgdiaaGreatDoor
open Go Go.Vm
def iw:List (List WK×Str)->List WK
 | []=>[]
 | [p]=>p.1++[(7,p.2)]
 | p::q::r=>p.1 ++((6,p.2)::iw (q::r))
def PI (p:Nod×Nod)(v:List WK×Str):Prop:=PX p.1 v.1/\(∃a,p.2 =⟨52,v.2,0,zT,[],[],a⟩)/\v.2.length<=20000
theorem b78:∀l:List (Nod×Nod),(fl l).length=2*l.length
 | []=>rfl
 | p::r=>by rw[fl,List.length_cons,List.length_cons,b78 r,List.length_cons];omega
theorem iw_len {ps:List (Nod×Nod)}{vs:List (List WK×Str)}(h:a1e PI ps vs):(iw vs).length<=8*szN (fl ps):=by
 induction h with
 | nil=>simp[iw]
 | @cons p v ps vs h1 h2 ih =>
  obtain⟨⟨k1,_⟩,⟨a,k2⟩,_⟩:=h1
  have h3:p.2.sz=2:=by rw[k2];rfl
  rw[fl,a3X,a3X,h3]
  cases vs with
  | nil=>simp only[iw,WL];omega
  | cons q r=>simp only[iw,WL];omega
theorem tmod_n (k:Nat):Int.tmod (k:Int) 2 =((k%2:Nat):Int):=rfl
theorem c4K {n:Nat}{x:Nod}(hz:szN x.l<=1000000)(hn:20*szN x.l+20<=n):∀{ps:List (Nod×Nod)} {vs:List (List WK×Str)},a1e PI ps vs -> ∀(pre:List Nod) (m:Nat) (ws:List Str),x.l=pre++fl ps->pre.length%2=1->2*ps.length<m->ws.length+8*szN (fl ps)<=500000->V5 n (j4.fs n) x m pre.length ws=some (ws++sp (iw vs)):=by
 have hlx:=a1y x.l
 intro ps vs h
 induction h with
 | nil =>
  intro pre m ws e h1 h2 h3
  obtain⟨m,rfl⟩:∃q,m=q+1:=⟨m-1,by simp only[List.length_nil]at h2;omega⟩
  rw[V5.eq_2,a1j (by rw[e];simp[fl])]
  simp[NF,iw,sp]
 | @cons p v ps vs g1 g2 ih =>
  intro pre m ws e h1 h2 h3
  obtain⟨k1,⟨a,k2⟩,k3⟩:=g1
  obtain⟨p1,p2⟩:=p
  obtain⟨w,s⟩:=v
  simp only at k1 k2 k3
  subst k2
  simp only[List.length_cons]at h2
  obtain⟨m,rfl⟩:∃q,m=q+2:=⟨m-2,by omega⟩
  have hL:x.l.length=pre.length+2+(fl ps).length:=by rw[e];simp[fl];omega
  have hf:=b78 ps
  have hm:p1.sz<=szN x.l:=a5r (by rw[e];simp[fl])
  have e0:idx' x.l (pre.length:Int)=some p1:=by rw[a0S (by omega)];simp only[e];simp[fl]
  have e1:idx' x.l ((pre.length+1:Nat):Int)=some ⟨52,s,0,zT,[],[],a⟩:=by rw[a0S (by omega)];simp only[e];simp[fl]
  rw[fl,a3X,a3X]at h3
  have h3:ws.length+8*(p1.sz+((⟨52,s,0,zT,[],[],a⟩:Nod).sz+szN (fl ps)))<=500000:=h3
  have h4:(⟨52,s,0,zT,[],[],a⟩:Nod).sz=2:=rfl
  rw[h4]at h3
  have k5:=k1.1
  have hq:=b4I k3
  have ih:=ih (pre++[p1,⟨52,s,0,zT,[],[],a⟩]) m (ws++sp w++[if ps=[]then 41 ::(Rp.esc s++[34])else 41 ::(Rp.esc s++[92,40])]) (by rw[e];simp[fl]) (by simp only[List.length_append,List.length_cons,List.length_nil];omega) (by omega) (by
   simp only[WL]
   omega)
  have e2:((pre++[p1,(⟨52,s,0,zT,[],[],a⟩:Nod)]).length:Int) =((pre.length+2:Nat):Int):=by simp
  rw[e2]at ih
  have z2:(!eqB 2 0)=true:=by rw[a1G (by decide)];rfl
  have t1:eqB (Int.tmod (pre.length:Int) 2) 1=true:=by rw[tmod_n,h1];exact a0C rfl
  have t2:eqB (Int.tmod ((pre.length+1:Nat):Int) 2) 1=false:=by rw[tmod_n,show(pre.length+1)%2=0 by omega];exact a1G (by decide)
  have t3:eqB ((pre.length+1:Nat):Int) 0=false:=a1G (by omega)
  have t5:w64 ((x.l.length:Int)-1) =((x.l.length-1:Nat):Int):=by rw[a5v (by omega) (by omega)];omega
  have R:=k1.2 n ws (by omega) (by omega)
  rw[V5.eq_2,a0v (by omega),e0]
  simp only[NF,z2,gdO,t1,R,F9 (show pre.length<=1000000000000 by omega)]
  rw[V5.eq_2,a0v (by omega),e1]
  simp only[NF,z2,gdO,t2,t3,t5,esc_v k3,F9 (show pre.length+1<=1000000000000 by omega)]
  cases g2 with
  | nil =>
   rw[if_pos rfl]at ih
   have t4:eqB ((pre.length+1:Nat):Int) ((x.l.length-1:Nat):Int)=true:=a0C (by simp only[fl,List.length_nil]at hL;omega)
   simp only[t4,NF,(hq 41 [34] (by simp)).1,(hq 41 [34] (by simp)).2]
   rw[b5Z (by simp only[WL];omega)]
   simp only[NF]
   rw[ih]
   simp[iw,sp,SPQ,SPL]
  | @cons q u qs us g3 g4 =>
   rw[if_neg (by simp)]at ih
   have t4:eqB ((pre.length+1:Nat):Int) ((x.l.length-1:Nat):Int)=false:=a1G (by
    have:0<(fl (q::qs)).length:=by rw[hf];simp
    omega)
   simp only[t4,NF,(hq 41 [92,40] (by simp)).1,(hq 41 [92,40] (by simp)).2]
   rw[b5Z (by simp only[WL];omega)]
   simp only[NF]
   rw[ih]
   simp[iw,sp,SPQ,SPL]
theorem c5d {s:Str}{ps:List (Nod×Nod)}{vs:List (List WK×Str)}{a b:Int}(hs:s.length<=20000)(hp:ps ≠ [])(h:a1e PI ps vs):PX ⟨53,[],0,zT,[],⟨52,s,0,zT,[],[],b⟩::fl ps,a⟩ ((5,s)::iw vs):=by
 have hl:=iw_len h
 have h2:(⟨52,s,0,zT,[],[],b⟩:Nod).sz=2:=rfl
 have hf:=b78 ps
 have hq:=b4I hs 34 [92,40] (by simp)
 have hpl:0<ps.length:=List.length_pos_iff.2 hp
 refine⟨by simp only[SZ,WL]at *;omega,fun n ws hn hw=>?_⟩
 rw[nsz,a3X,h2]at hn hw
 simp only[SZ]at hn hw
 obtain⟨n,rfl⟩:∃m,n=m+2:=⟨n-2,by omega⟩
 obtain⟨q,rfl⟩:∃q,n=q+1:=⟨n-1,by omega⟩
 have hx:szN (⟨52,s,0,zT,[],[],b⟩::fl ps)=2+szN (fl ps):=by rw[a3X,h2]
 have hfl:=a1y (fl ps)
 have ih:=c4K (n:=q+1) (x:=⟨53,[],0,zT,[],⟨52,s,0,zT,[],[],b⟩::fl ps,a⟩) (by simp only[hx];omega) (by simp only[hx];omega) h [⟨52,s,0,zT,[],[],b⟩] q (ws++[34 ::(Rp.esc s++[92,40])]) rfl rfl (by omega) (by simp only[WL];omega)
 have R:(j4.fs (q+2)).Y1 ⟨53,[],0,zT,[],⟨52,s,0,zT,[],[],b⟩::fl ps,a⟩ ws=some (ws++sp ((5,s)::iw vs)):=by
  show V5 (q+1) (j4.fs (q+1)) _ (q+1) 0 ws=_
  rw[V5.eq_2,a0v (by simp only[List.length_cons];omega)]
  have e0:idx' (⟨52,s,0,zT,[],[],b⟩::fl ps) 0=some ⟨52,s,0,zT,[],[],b⟩:=a0S (l:=⟨52,s,0,zT,[],[],b⟩::fl ps) (i:=0) (Nat.succ_pos _)
  have z2:(!eqB 2 0)=true:=by rw[a1G (by decide)];rfl
  have t1:eqB (Int.tmod 0 2) 1=false:=a1G (by decide)
  have t0:eqB 0 0=true:=a0C rfl
  simp only[NF,e0,z2,gdO,t1,t0,esc_v hs,hq.1,hq.2,show w64 (0+1)=1 by decide]
  rw[b5Z (by simp only[WL];omega)]
  simp only[NF]
  have ih:V5 (q+1) (j4.fs (q+1)) _ q 1 _=_:=ih
  rw[ih]
  simp[sp,SPQ,SPL]
 show A9 (q+2) (j4.fs (q+2)) _ ws=_
 unfold A9
 simp only[a5Y,Int.reduceEq,decide_true,decide_false,NF]
 rw[R]
 rfl
end Go.Proofs.YtjhfloacokgdiaaGreatDoor
