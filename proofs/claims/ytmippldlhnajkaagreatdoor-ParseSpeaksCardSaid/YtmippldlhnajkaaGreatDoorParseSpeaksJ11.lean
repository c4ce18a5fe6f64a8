/- What the functions under ParseSpeaks compute, step by step, as functions in Lean: texts that were built one by one, joined. -/
import Derived.Test.YtmippldlhnajkaaGreatDoorParseSpeaksJ10
import Derived.Shelf.Strconv.Itoa0
import Derived.Shelf.Strconv.Itoa1
import Derived.Shelf.LaysM
import Derived.Shelf.Strconv.Itoa2
import Derived.Shelf.Strconv.Itoa3
import Derived.Test.YtmippldlhnajkaaGreatDoorProg
import Derived.Lib.AppendIntMem
import Derived.Lib.Join
set_option maxRecDepth 100000
set_option maxHeartbeats 20000000
set_option linter.unusedSimpArgs false
set_option linter.unusedVariables false
set_option linter.unusedSectionVars false
namespace Go.Proofs.YtmippldlhnajkaaGreatDoor.Rp
open Go Go.Vm
def a7B (b:UInt8):List UInt8:=if b=10 then [92,110]else if b=9 then [92,116]else if b=92 then [92,92]else if b=34 then [92,34]else [b]
def esc (s:List UInt8):List UInt8:=s.flatMap a7B
def cn (s:List UInt8):Nat->Nat
 | 0=>0
 | 1=>s.count 34
 | 2=>s.count 34+s.count 92
 | 3=>s.count 34+s.count 92+s.count 9
 | _=>s.count 34+s.count 92+s.count 9+s.count 10
theorem a92 (b:UInt8)(s:List UInt8):esc (b::s)=a7B b++esc s:=by simp[esc]
theorem b7C (a b:List UInt8):esc (a++b)=esc a++esc b:=by simp[esc]
theorem c0V {b:UInt8}(h1:b≠10)(h2:b≠9)(h3:b≠92)(h4:b≠34):cell b.toNat=.slice .nil 0 []:=by
 have k1:b.toNat≠10:=fun h=>h1 (UInt8.toNat_inj.1 h)
 have k2:b.toNat≠9:=fun h=>h2 (UInt8.toNat_inj.1 h)
 have k3:b.toNat≠92:=fun h=>h3 (UInt8.toNat_inj.1 h)
 have k4:b.toNat≠34:=fun h=>h4 (UInt8.toNat_inj.1 h)
 unfold cell
 split<;>first|contradiction|rfl
theorem a6F (b:UInt8):(∃c:UInt8,cell b.toNat=.slice .sealed 2 [.int .u8 92,.int .u8 ((c.toNat:Nat):Int)]/\a7B b=[92,c])∨(cell b.toNat=.slice .nil 0 []/\a7B b=[b]):=by
 by_cases h1:b=10
 ·subst h1;exact .inl ⟨110,rfl,rfl⟩
 by_cases h2:b=9
 ·subst h2;exact .inl ⟨116,rfl,rfl⟩
 by_cases h3:b=92
 ·subst h3;exact .inl ⟨92,rfl,rfl⟩
 by_cases h4:b=34
 ·subst h4;exact .inl ⟨34,rfl,rfl⟩
 exact .inr ⟨c0V h1 h2 h3 h4,by simp only[a7B,if_neg h1,if_neg h2,if_neg h3,if_neg h4]⟩
theorem b4T (b:UInt8):1 <=(a7B b).length/\(a7B b).length<=2:=by
 rcases a6F b with⟨c,_,h⟩ |⟨_,h⟩<;>rw[h]<;>simp
theorem c08:∀s,s.length <=(esc s).length
 | []=>Nat.le_refl _
 | b::s=>by have:=c08 s;have:=b4T b;rw[a92,List.length_append,List.length_cons];omega
theorem a94:∀s,(esc s).length<=2*s.length
 | []=>Nat.le_refl _
 | b::s=>by have:=a94 s;have:=b4T b;rw[a92,List.length_append,List.length_cons];omega
theorem b7D:∀s,(esc s).length=s.length+(s.count 34+s.count 92+s.count 9+s.count 10)
 | []=>rfl
 | b::s=>by
  have ih:=b7D s
  rw[a92,List.length_append,ih]
  simp only[List.count_cons,List.length_cons]
  by_cases h1:b=10
  ·subst h1;simp[a7B];omega
  by_cases h2:b=9
  ·subst h2;simp[a7B];omega
  by_cases h3:b=92
  ·subst h3;simp[a7B];omega
  by_cases h4:b=34
  ·subst h4;simp[a7B];omega
  simp[a7B,h1,h2,h3,h4];omega
theorem b4V:∀{s:List UInt8},¬s.length<(esc s).length->esc s=s
 | [],_=>rfl
 | b::s,h=>by
  have h0:=c08 s
  have h1:=b4T b
  rw[a92,List.length_append,List.length_cons]at h
  rcases a6F b with⟨c,_,he⟩ |⟨_,he⟩
  ·rw[he]at h;simp at h;omega
  ·rw[a92,he,b4V (s:=s) (by rw[he]at h;simp at h;omega)];rfl
theorem a7U {s:List UInt8}{i:Nat}(h:i<s.length):esc (s.take (i+1))=esc (s.take i)++a7B (s.getD i 0):=by
 rw[List.take_succ_eq_append_getElem h,b7C]
 congr 1
 simp[esc,h]
theorem b0H (s:List UInt8)(i:Nat):(esc (s.take i)).length <=(esc s).length:=by
 conv=>rhs;rw[<-List.take_append_drop i s,b7C,List.length_append]
 omega
theorem cn_le (s:List UInt8):∀k,cn s k<=4*s.length:=by
 have a:=List.count_le_length (a:=(34:UInt8)) (l:=s)
 have b:=List.count_le_length (a:=(92:UInt8)) (l:=s)
 have c:=List.count_le_length (a:=(9:UInt8)) (l:=s)
 have d:=List.count_le_length (a:=(10:UInt8)) (l:=s)
 intro k
 unfold cn
 split<;>omega
theorem RR_get (b:UInt8):RR[b.toNat]? = some (cell b.toNat):=by
 have:=UInt8.toNat_lt b
 unfold RR
 rw[List.getElem?_append_left (by simp;omega),List.getElem?_map,List.getElem?_range (by omega)]
 rfl
theorem RR_256:RR[256]? = some (.rslice 1 0 4 true):=by kernel_rfl
theorem a7Z (b:UInt8){off:Nat}{H:Hp}(ho:off=b.toNat):a2C env.T 54 (.ptr 0 off) ((0,.row RR)::H)=some (cell b.toNat):=by
 subst ho
 exact RR_get b
theorem ld_TL {H:Hp}:a2C env.T 58 (.ptr 0 (0+256)) ((0,.row RR)::H)=some (.rslice 1 0 4 true):=RR_256
theorem ct_E (s:List UInt8)(c:UInt8):E env (.call 321 [.str s,.str [c]]) []=some (.ret (.int .i64 ((s.count c:Nat):Int)) []):=a8C (h:=b7y) rfl rfl
theorem mul1 {a:Nat}(h:a<9223372036854775808):a2a (some (.int .i64 (IntKind.wrap .i64 ((a:Int)*1))))=some (.int .i64 (a:Nat)):=by
 rw[Int.mul_one,wrap64 (by omega) (by omega)];rfl
theorem addE {j k m:Nat}(h:m=j+k)(hb:j+k<9223372036854775808):a2a (some (.int .i64 (IntKind.wrap .i64 ((j:Int)+(k:Int)))))=some (.int .i64 (m:Nat)):=by
 rw[h];exact addN hb
theorem c1r (n:Nat){m:Nat}{x:Option V}(h:x=match gd (ltB 0 ((m+1:Nat):Int)) (some false)with|some b=>some (.bool (!b))|none=>none):a2a x=some (.bool true):=by
 rw[h]
 have:ltB 0 ((m+1:Nat):Int)=true:=by simp only[ltB,decide_eq_true_eq];omega
 rw[this];rfl
theorem b6W {env:Env}{orc:Orc}{ops:Array Oper}{o:Oper}{rest:List Oper}{fr:Fr}{H H1:Hp}{K:Res->Prop}{t:Nat}{a b:Operand}{x v:V}(hw:A7 ops o fr=some true)(ho:o.op=.store t a b)(ha:ev fr a=some x)(hb:ev fr b=some v)(hs:a3H env.T t x v H=some H1)(h:Go.Vm.Os env orc ops rest (P6 o.dst .undef fr) H1 K):Go.Vm.Os env orc ops (o::rest) fr H K:=by
 refine a00 hw (by rw[ho];rfl) (v:=.undef) (H1:=H1) ?_ h
 unfold O6
 rw[ho]
 simp only[ha,hb,hs]
def BUF (s:List UInt8)(i:Nat):List V:=X7 (esc (s.take i))++List.replicate ((esc s).length-(esc (s.take i)).length) (.int .u8 0)
theorem c2g (s:List UInt8)(i:Nat):(BUF s i).length =(esc s).length:=by
 have:=b0H s i
 simp only[BUF,List.length_append,X7,List.length_map,List.length_replicate];omega
theorem set_mid {α:Type}(a new:List α)(z:α){n:Nat}(h:new.length<=n):(a++List.replicate n z).take a.length++new ++(a++List.replicate n z).drop (a.length+new.length)=a++new++List.replicate (n-new.length) z:=by
 rw[List.take_left,List.drop_append,List.drop_eq_nil_of_le (by omega),List.nil_append,List.drop_replicate]
 congr 2;omega
theorem c2i {s:List UInt8}{i:Nat}(h:i<s.length){b:UInt8}(hb:s.getD i 0=b){news:List V}(hn:news=X7 (a7B b)){off:Nat}(ho:off =(esc (s.take i)).length):K6 (BUF s i) off news=BUF s (i+1):=by
 have h1:=a7U h
 rw[hb]at h1
 have h2:=b0H s (i+1)
 rw[h1,List.length_append]at h2
 have h3:(esc (s.take i)).length =(X7 (esc (s.take i))).length:=by simp[X7]
 have h4:news.length =(a7B b).length:=by rw[hn];simp[X7]
 subst ho
 unfold K6 BUF
 rw[h3,set_mid _ _ _ (by omega),hn,h1]
 simp only[X7,List.map_append,List.length_append,List.length_map]
 congr 2
 omega
theorem c2j {s:List UInt8}{i:Nat}(h:i<s.length){b c:UInt8}(hb:s.getD i 0=b)(he:a7B b=[92,c]):K6 (BUF s i) (0+(esc (s.take i)).length*1) [.int .u8 92,.int .u8 ((c.toNat:Nat):Int)]=BUF s (i+1):=c2i h hb (by rw[he];rfl) (by omega)
theorem c2h {s:List UInt8}{i:Nat}(h:i<s.length){b:UInt8}(hb:s.getD i 0=b)(he:a7B b=[b]):K6 (BUF s i) (0+(esc (s.take i)).length*1) [.int .u8 ((b.toNat:Nat):Int)]=BUF s (i+1):=c2i h hb (by rw[he];rfl) (by omega)
theorem cp_ok {j n:Nat} {cs B:List V} {a b:V} {G:Hp} (hG:G = [(0,.row RR),(1,.grow 1 TR),(2,.grow 1 cs)]) (h1:2 <= n) (h2:j + 2 <= cs.length) (hB:K6 cs (0 + j * 1) [a,b] = B) :
    b7h env.T 54 (.rslice 2 (0+j*1) n false) (.slice .sealed 2 [a,b]) G=some (.val (.int .i64 ((2:Nat):Int)) [(0,.row RR),(1,.grow 1 TR),(2,.grow 1 B)]):=by
  subst hG
  have e:b7h env.T 54 (.rslice 2 (0+j*1) n false) (.slice .sealed 2 [a,b]) [(0,.row RR),(1,.grow 1 TR),(2,.grow 1 cs)] =(match gd (eqN (2*1) [a,b].length) (some (2,[a,b]))with
    | some (m,news)=>(match Nat.beq m 0 with
        | true=>some (OpR.val (.int .i64 0) [(0,.row RR),(1,.grow 1 TR),(2,.grow 1 cs)])
        | false=>gd (leN m n&&leN (0+j*1+m*1) cs.length) (some (.val (.int .i64 (m:Int)) [(0,.row RR),(1,.grow 1 TR),(2,.grow 1 (K6 cs (0+j*1) news))])))
    | none=>none):=by kernel_rfl
  rw[e,a0k (show 2*1=[a,b].length from rfl)]
  simp only[gd]
  rw[a7F h1,a7F (show 0+j*1+2*1<=cs.length by omega),hB]
  rfl
theorem st_ok {j:Nat}{cs B:List V}{b:Nat}{G:Hp}(hG:G=[(0,.row RR),(1,.grow 1 TR),(2,.grow 1 cs)])(h2:j+1<=cs.length)(hB:K6 cs (0+j*1) [.int .u8 (b:Int)]=B) :
  a3H env.T 5 (.ptr 2 (0+j*1)) (.int .u8 (b:Int)) G=some [(0,.row RR),(1,.grow 1 TR),(2,.grow 1 B)]:=by
 subst hG
 have e:a3H env.T 5 (.ptr 2 (0+j*1)) (.int .u8 (b:Int)) [(0,.row RR),(1,.grow 1 TR),(2,.grow 1 cs)]=gd (leN (0+j*1+1) cs.length) (some [(0,.row RR),(1,.grow 1 TR),(2,.grow 1 (K6 cs (0+j*1) [.int .u8 (b:Int)]))]):=by kernel_rfl
 rw[e,a7F (by omega),hB]
 rfl
theorem mk_ok (n:Nat)(hn:n<=4000000){G:Hp}(hG:G=[(0,.row RR),(1,.grow 1 TR)]):b7j env.T 54 (.int .i64 (n:Int)) (.int .i64 (n:Int)) G 5504=some (.val (.rslice 5504 0 n true) [(0,.row RR),(1,.grow 1 TR),(5504,.grow 1 (List.replicate n (.int .u8 0)))]):=by
 subst hG
 have e:b7j env.T 54 (.int .i64 (n:Int)) (.int .i64 (n:Int)) [(0,.row RR),(1,.grow 1 TR)] 5504=gd (leB 0 (n:Int)&&leB (n:Int) (n:Int)&&leB ((n:Int)*((1:Nat)+1:Nat)) 70368744177664) (some (.val (.rslice 5504 0 n true) [(0,.row RR),(1,.grow 1 TR),(5504,.grow 1 (List.replicate n [.int .u8 0]).flatten)])):=by kernel_rfl
 rw[e]
 have h1:(leB 0 (n:Int)&&leB (n:Int) (n:Int)&&leB ((n:Int)*((1:Nat)+1:Nat)) 70368744177664)=true:=by simp only[leB,Bool.and_eq_true,decide_eq_true_eq];omega
 rw[h1]
 have h2:(List.replicate n [V.int .u8 0]).flatten=List.replicate n (.int .u8 0):=by
  induction n with
  | zero=>rfl
  | succ n ih=>rw[List.replicate_succ,List.flatten_cons,List.replicate_succ];simp[List.flatten_replicate_singleton]
 rw[h2]
 rfl
theorem cv_ok (s:List UInt8):b2Y env.T 54 9 (.slice .sealed (esc s).length ((BUF s s.length).take ((esc s).length*1)))=some (.str (esc s)):=by
 have e:(BUF s s.length).take ((esc s).length*1)=X7 (esc s):=by
  unfold BUF
  rw[List.take_length,Nat.sub_self,List.replicate_zero,List.append_nil,Nat.mul_one]
  exact List.take_of_length_le (by simp[X7])
 rw[e]
 have e2:b2Y env.T 54 9 (.slice .sealed (esc s).length (X7 (esc s))) =(match a3S (X7 (esc s))with|some l=>gd (eqN (esc s).length l.length) (some (.str l))|none=>none):=by kernel_rfl
 rw[e2,b1X]
 simp only[a0k rfl,gd]
theorem bs_E (s:List UInt8)(hs:s.length<=1000000):E env (.call 319 [.ptr 0 0,.str s]) [(0,.row RR),(1,.grow 1 TR)]=some (.ret (.str (esc s)) [(0,.row RR),(1,.grow 1 TR)]):=by
 refine M0 (env:=env) rfl Tryz.func319 rfl rfl ?_
 refine q9 ?_
 refine o7 ?_
 refine j5 rfl rfl rfl ?_
 refine D9 ?_
 refine q9 ?_
 refine o7 ?_
 refine j5 rfl rfl rfl ?_
 refine j5 rfl rfl rfl ?_
 refine j5 rfl rfl rfl ?_
 refine D9 ?_
 refine q9 ?_
 refine o7 ?_
 refine j5 rfl rfl rfl ?_
 refine D9 ?_
 refine q9 ?_
 refine q9 ?_
 refine o7 ?_
 refine j5 rfl rfl rfl ?_
 refine j5 rfl rfl rfl ?_
 refine j5 rfl rfl rfl ?_
 refine V7 rfl rfl rfl (v:=.rslice 1 0 4 true) ld_TL ?_
 refine j5 rfl rfl rfl ?_
 refine j5 rfl rfl rfl ?_
 refine j5 rfl rfl rfl ?_
 refine j5 rfl rfl rfl ?_
 refine j5 rfl rfl rfl ?_
 refine D9 ?_
 refine J4 rfl (fun g26=>?_) (fun g26=>?_)
 ·refine q9 ?_
  refine o7 ?_
  refine j5 rfl rfl rfl ?_
  refine j5 rfl rfl rfl ?_
  refine j5 rfl rfl rfl ?_
  refine V7 rfl rfl rfl (v:=.rslice 1 0 4 true) ld_TL ?_
  refine j5 rfl rfl rfl ?_
  refine j5 rfl rfl rfl ?_
  refine D9 ?_
  refine I7 ?_
  refine a1D (fr1:=[(0,.ptr 0 0),(1,.str s),(5,.int .i64 ((s.length:Nat):Int)),(6,.bool false),(30,.rslice 1 0 4 true),(31,.int .i64 4),(32,.int .i64 ((0:Nat):Int))]) (H1:=[(0,.row RR),(1,.grow 1 TR)]) (by kernel_rfl) ?_
  refine a3j (fun x:Nat×Nat×Bool=>[(0,.ptr 0 0),(1,.str s),(5,.int .i64 ((x.2.1:Nat):Int)),(6,.bool x.2.2),(30,.rslice 1 0 4 true),(31,.int .i64 4),(32,.int .i64 ((x.1:Nat):Int))]) (fun _=>[(0,.row RR),(1,.grow 1 TR)]) (fun x=>x.1<=4/\x.2.1=s.length+cn s x.1/\x.2.2=decide (0<cn s x.1)) (fun x=>4-x.1) (0,s.length,false) ⟨by simp,rfl,rfl⟩ ?_
  rintro⟨k,ns,any⟩ ⟨hk,hns,hany⟩ ih
  simp only at hk hns hany ih ⊢
  have hcn:=cn_le s k
  rcases(by omega:k=0∨k=1∨k=2∨k=3∨k=4)with rfl|rfl|rfl|rfl|rfl
  ·have hc:=List.count_le_length (a:=(34:UInt8)) (l:=s)
   refine q9 ?_
   refine o7 ?_
   refine j5 rfl rfl rfl ?_
   refine D9 ?_
   refine q9 ?_
   refine Q0 rfl (by simp[ltB]) ?_
   refine D5 ?_
   refine q9 ?_
   refine I7 ?_
   refine q9 ?_
   refine o7 ?_
   refine j5 rfl rfl (V5 (by simp[inR]) rfl) ?_
   refine V7 rfl rfl rfl (v:=.str [34]) rfl ?_
   refine j5 rfl rfl rfl ?_
   refine D9 ?_
   refine q9 ?_
   refine o7 ?_
   refine j5 rfl rfl rfl ?_
   refine j5 rfl rfl rfl ?_
   refine G9 rfl rfl rfl rfl rfl (ct_E s 34) rfl ?_
   refine j5 rfl rfl rfl ?_
   refine D9 ?_
   refine q9 ?_
   refine o7 ?_
   refine j5 rfl rfl rfl ?_
   refine j5 rfl rfl rfl ?_
   refine D9 ?_
   refine J4 rfl (fun g40=>?_) (fun g40=>?_)
   ·replace g40:s.count 34≠0:=by intro h;rw[h]at g40;simp[eqB]at g40
    refine q9 ?_
    refine o7 ?_
    refine j5 rfl rfl rfl ?_
    refine j5 rfl rfl rfl ?_
    refine j5 rfl rfl rfl ?_
    refine j5 rfl rfl rfl ?_
    refine j5 rfl rfl (V5 (by simp[inR]) (show _=some (.int .u8 (((34:UInt8).toNat:Nat):Int))from rfl)) ?_
    refine j5 rfl rfl rfl ?_
    refine j5 rfl rfl rfl ?_
    refine j5 rfl rfl (V5 (by simp[inR]) rfl) ?_
    refine V7 rfl rfl rfl (a7Z 34 rfl) ?_
    refine j5 rfl rfl rfl ?_
    refine j5 rfl rfl rfl ?_
    refine j5 rfl rfl (mul1 (by omega)) ?_
    refine j5 rfl rfl (addN (by omega)) ?_
    refine j5 rfl rfl rfl ?_
    refine D9 ?_
    refine o7 ?_
    refine j5 rfl rfl rfl ?_
    refine D9 ?_
    refine o7 ?_
    refine j5 rfl rfl rfl ?_
    refine j5 rfl rfl rfl ?_
    refine D9 ?_
    exact⟨[(0,.ptr 0 0),(1,.str s),(5,.int .i64 ((ns+s.count 34:Nat):Int)),(6,.bool true),(30,.rslice 1 0 4 true),(31,.int .i64 4),(32,.int .i64 ((1:Nat):Int))],[(0,.row RR),(1,.grow 1 TR)],by kernel_rfl,ih (1,ns+s.count 34,true) (by simp) ⟨by simp,by rw[hns];simp only[cn];omega,by simp only[cn];symm;simp only[decide_eq_true_eq];omega⟩⟩
   ·replace g40:s.count 34=0:=by simp only[eqB,Bool.not_eq_false',beq_iff_eq]at g40;omega
    refine D5 ?_
    refine o7 ?_
    refine j5 rfl rfl rfl ?_
    refine j5 rfl rfl rfl ?_
    refine D9 ?_
    exact⟨[(0,.ptr 0 0),(1,.str s),(5,.int .i64 ((ns:Nat):Int)),(6,.bool any),(30,.rslice 1 0 4 true),(31,.int .i64 4),(32,.int .i64 ((1:Nat):Int))],[(0,.row RR),(1,.grow 1 TR)],by kernel_rfl,ih (1,ns,any) (by simp) ⟨by simp,by rw[hns];simp only[cn];omega,by rw[hany];simp only[cn];congr 1;simp only[eq_iff_iff];omega⟩⟩
  ·have hc:=List.count_le_length (a:=(92:UInt8)) (l:=s)
   refine q9 ?_
   refine o7 ?_
   refine j5 rfl rfl rfl ?_
   refine D9 ?_
   refine q9 ?_
   refine Q0 rfl (by simp[ltB]) ?_
   refine D5 ?_
   refine q9 ?_
   refine I7 ?_
   refine q9 ?_
   refine o7 ?_
   refine j5 rfl rfl (V5 (by simp[inR]) rfl) ?_
   refine V7 rfl rfl rfl (v:=.str [92]) rfl ?_
   refine j5 rfl rfl rfl ?_
   refine D9 ?_
   refine q9 ?_
   refine o7 ?_
   refine j5 rfl rfl rfl ?_
   refine j5 rfl rfl rfl ?_
   refine G9 rfl rfl rfl rfl rfl (ct_E s 92) rfl ?_
   refine j5 rfl rfl rfl ?_
   refine D9 ?_
   refine q9 ?_
   refine o7 ?_
   refine j5 rfl rfl rfl ?_
   refine j5 rfl rfl rfl ?_
   refine D9 ?_
   refine J4 rfl (fun g40=>?_) (fun g40=>?_)
   ·replace g40:s.count 92≠0:=by intro h;rw[h]at g40;simp[eqB]at g40
    refine q9 ?_
    refine o7 ?_
    refine j5 rfl rfl rfl ?_
    refine j5 rfl rfl rfl ?_
    refine j5 rfl rfl rfl ?_
    refine j5 rfl rfl rfl ?_
    refine j5 rfl rfl (V5 (by simp[inR]) (show _=some (.int .u8 (((92:UInt8).toNat:Nat):Int))from rfl)) ?_
    refine j5 rfl rfl rfl ?_
    refine j5 rfl rfl rfl ?_
    refine j5 rfl rfl (V5 (by simp[inR]) rfl) ?_
    refine V7 rfl rfl rfl (a7Z 92 rfl) ?_
    refine j5 rfl rfl rfl ?_
    refine j5 rfl rfl rfl ?_
    refine j5 rfl rfl (mul1 (by omega)) ?_
    refine j5 rfl rfl (addN (by omega)) ?_
    refine j5 rfl rfl rfl ?_
    refine D9 ?_
    refine o7 ?_
    refine j5 rfl rfl rfl ?_
    refine D9 ?_
    refine o7 ?_
    refine j5 rfl rfl rfl ?_
    refine j5 rfl rfl rfl ?_
    refine D9 ?_
    exact⟨[(0,.ptr 0 0),(1,.str s),(5,.int .i64 ((ns+s.count 92:Nat):Int)),(6,.bool true),(30,.rslice 1 0 4 true),(31,.int .i64 4),(32,.int .i64 ((2:Nat):Int))],[(0,.row RR),(1,.grow 1 TR)],by kernel_rfl,ih (2,ns+s.count 92,true) (by simp) ⟨by simp,by rw[hns];simp only[cn];omega,by simp only[cn];symm;simp only[decide_eq_true_eq];omega⟩⟩
   ·replace g40:s.count 92=0:=by simp only[eqB,Bool.not_eq_false',beq_iff_eq]at g40;omega
    refine D5 ?_
    refine o7 ?_
    refine j5 rfl rfl rfl ?_
    refine j5 rfl rfl rfl ?_
    refine D9 ?_
    exact⟨[(0,.ptr 0 0),(1,.str s),(5,.int .i64 ((ns:Nat):Int)),(6,.bool any),(30,.rslice 1 0 4 true),(31,.int .i64 4),(32,.int .i64 ((2:Nat):Int))],[(0,.row RR),(1,.grow 1 TR)],by kernel_rfl,ih (2,ns,any) (by simp) ⟨by simp,by rw[hns];simp only[cn];omega,by rw[hany];simp only[cn];congr 1;simp only[eq_iff_iff];omega⟩⟩
  ·have hc:=List.count_le_length (a:=(9:UInt8)) (l:=s)
   refine q9 ?_
   refine o7 ?_
   refine j5 rfl rfl rfl ?_
   refine D9 ?_
   refine q9 ?_
   refine Q0 rfl (by simp[ltB]) ?_
   refine D5 ?_
   refine q9 ?_
   refine I7 ?_
   refine q9 ?_
   refine o7 ?_
   refine j5 rfl rfl (V5 (by simp[inR]) rfl) ?_
   refine V7 rfl rfl rfl (v:=.str [9]) rfl ?_
   refine j5 rfl rfl rfl ?_
   refine D9 ?_
   refine q9 ?_
   refine o7 ?_
   refine j5 rfl rfl rfl ?_
   refine j5 rfl rfl rfl ?_
   refine G9 rfl rfl rfl rfl rfl (ct_E s 9) rfl ?_
   refine j5 rfl rfl rfl ?_
   refine D9 ?_
   refine q9 ?_
   refine o7 ?_
   refine j5 rfl rfl rfl ?_
   refine j5 rfl rfl rfl ?_
   refine D9 ?_
   refine J4 rfl (fun g40=>?_) (fun g40=>?_)
   ·replace g40:s.count 9≠0:=by intro h;rw[h]at g40;simp[eqB]at g40
    refine q9 ?_
    refine o7 ?_
    refine j5 rfl rfl rfl ?_
    refine j5 rfl rfl rfl ?_
    refine j5 rfl rfl rfl ?_
    refine j5 rfl rfl rfl ?_
    refine j5 rfl rfl (V5 (by simp[inR]) (show _=some (.int .u8 (((9:UInt8).toNat:Nat):Int))from rfl)) ?_
    refine j5 rfl rfl rfl ?_
    refine j5 rfl rfl rfl ?_
    refine j5 rfl rfl (V5 (by simp[inR]) rfl) ?_
    refine V7 rfl rfl rfl (a7Z 9 rfl) ?_
    refine j5 rfl rfl rfl ?_
    refine j5 rfl rfl rfl ?_
    refine j5 rfl rfl (mul1 (by omega)) ?_
    refine j5 rfl rfl (addN (by omega)) ?_
    refine j5 rfl rfl rfl ?_
    refine D9 ?_
    refine o7 ?_
    refine j5 rfl rfl rfl ?_
    refine D9 ?_
    refine o7 ?_
    refine j5 rfl rfl rfl ?_
    refine j5 rfl rfl rfl ?_
    refine D9 ?_
    exact⟨[(0,.ptr 0 0),(1,.str s),(5,.int .i64 ((ns+s.count 9:Nat):Int)),(6,.bool true),(30,.rslice 1 0 4 true),(31,.int .i64 4),(32,.int .i64 ((3:Nat):Int))],[(0,.row RR),(1,.grow 1 TR)],by kernel_rfl,ih (3,ns+s.count 9,true) (by simp) ⟨by simp,by rw[hns];simp only[cn];omega,by simp only[cn];symm;simp only[decide_eq_true_eq];omega⟩⟩
   ·replace g40:s.count 9=0:=by simp only[eqB,Bool.not_eq_false',beq_iff_eq]at g40;omega
    refine D5 ?_
    refine o7 ?_
    refine j5 rfl rfl rfl ?_
    refine j5 rfl rfl rfl ?_
    refine D9 ?_
    exact⟨[(0,.ptr 0 0),(1,.str s),(5,.int .i64 ((ns:Nat):Int)),(6,.bool any),(30,.rslice 1 0 4 true),(31,.int .i64 4),(32,.int .i64 ((3:Nat):Int))],[(0,.row RR),(1,.grow 1 TR)],by kernel_rfl,ih (3,ns,any) (by simp) ⟨by simp,by rw[hns];simp only[cn];omega,by rw[hany];simp only[cn];congr 1;simp only[eq_iff_iff];omega⟩⟩
  ·have hc:=List.count_le_length (a:=(10:UInt8)) (l:=s)
   refine q9 ?_
   refine o7 ?_
   refine j5 rfl rfl rfl ?_
   refine D9 ?_
   refine q9 ?_
   refine Q0 rfl (by simp[ltB]) ?_
   refine D5 ?_
   refine q9 ?_
   refine I7 ?_
   refine q9 ?_
   refine o7 ?_
   refine j5 rfl rfl (V5 (by simp[inR]) rfl) ?_
   refine V7 rfl rfl rfl (v:=.str [10]) rfl ?_
   refine j5 rfl rfl rfl ?_
   refine D9 ?_
   refine q9 ?_
   refine o7 ?_
   refine j5 rfl rfl rfl ?_
   refine j5 rfl rfl rfl ?_
   refine G9 rfl rfl rfl rfl rfl (ct_E s 10) rfl ?_
   refine j5 rfl rfl rfl ?_
   refine D9 ?_
   refine q9 ?_
   refine o7 ?_
   refine j5 rfl rfl rfl ?_
   refine j5 rfl rfl rfl ?_
   refine D9 ?_
   refine J4 rfl (fun g40=>?_) (fun g40=>?_)
   ·replace g40:s.count 10≠0:=by intro h;rw[h]at g40;simp[eqB]at g40
    refine q9 ?_
    refine o7 ?_
    refine j5 rfl rfl rfl ?_
    refine j5 rfl rfl rfl ?_
    refine j5 rfl rfl rfl ?_
    refine j5 rfl rfl rfl ?_
    refine j5 rfl rfl (V5 (by simp[inR]) (show _=some (.int .u8 (((10:UInt8).toNat:Nat):Int))from rfl)) ?_
    refine j5 rfl rfl rfl ?_
    refine j5 rfl rfl rfl ?_
    refine j5 rfl rfl (V5 (by simp[inR]) rfl) ?_
    refine V7 rfl rfl rfl (a7Z 10 rfl) ?_
    refine j5 rfl rfl rfl ?_
    refine j5 rfl rfl rfl ?_
    refine j5 rfl rfl (mul1 (by omega)) ?_
    refine j5 rfl rfl (addN (by omega)) ?_
    refine j5 rfl rfl rfl ?_
    refine D9 ?_
    refine o7 ?_
    refine j5 rfl rfl rfl ?_
    refine D9 ?_
    refine o7 ?_
    refine j5 rfl rfl rfl ?_
    refine j5 rfl rfl rfl ?_
    refine D9 ?_
    exact⟨[(0,.ptr 0 0),(1,.str s),(5,.int .i64 ((ns+s.count 10:Nat):Int)),(6,.bool true),(30,.rslice 1 0 4 true),(31,.int .i64 4),(32,.int .i64 ((4:Nat):Int))],[(0,.row RR),(1,.grow 1 TR)],by kernel_rfl,ih (4,ns+s.count 10,true) (by simp) ⟨by simp,by rw[hns];simp only[cn];omega,by simp only[cn];symm;simp only[decide_eq_true_eq];omega⟩⟩
   ·replace g40:s.count 10=0:=by simp only[eqB,Bool.not_eq_false',beq_iff_eq]at g40;omega
    refine D5 ?_
    refine o7 ?_
    refine j5 rfl rfl rfl ?_
    refine j5 rfl rfl rfl ?_
    refine D9 ?_
    exact⟨[(0,.ptr 0 0),(1,.str s),(5,.int .i64 ((ns:Nat):Int)),(6,.bool any),(30,.rslice 1 0 4 true),(31,.int .i64 4),(32,.int .i64 ((4:Nat):Int))],[(0,.row RR),(1,.grow 1 TR)],by kernel_rfl,ih (4,ns,any) (by simp) ⟨by simp,by rw[hns];simp only[cn];omega,by rw[hany];simp only[cn];congr 1;simp only[eq_iff_iff];omega⟩⟩
  ·have hN:ns =(esc s).length:=by rw[hns,b7D];rfl
   replace hany:any=decide (s.length<(esc s).length):=by rw[hany,b7D];simp only[cn];congr 1;simp only[eq_iff_iff];omega
   subst hN
   refine q9 ?_
   refine o7 ?_
   refine j5 rfl rfl rfl ?_
   refine D9 ?_
   refine q9 ?_
   refine U1 rfl (by simp[ltB]) ?_
   refine a0g ?_
   refine q9 ?_
   refine q9 ?_
   refine o7 ?_
   refine j5 rfl rfl rfl ?_
   refine j5 rfl rfl rfl ?_
   refine D9 ?_
   refine J4 rfl (fun g82=>?_) (fun g82=>?_)
   ·have hs1:=b4V (s:=s) (by rw[hany]at g82;simpa using g82)
    rw[hs1]
    refine q9 ?_
    refine o7 ?_
    refine j5 rfl rfl rfl ?_
    refine j5 rfl rfl rfl ?_
    refine D9 ?_
    exact u7 ⟨_,rfl,by kernel_rfl⟩
   ·refine D5 ?_
    refine q9 ?_
    refine o7 ?_
    refine j5 rfl rfl rfl ?_
    refine a00 rfl rfl (mk_ok (esc s).length (by have:=a94 s;omega) rfl) ?_
    refine j5 rfl rfl rfl ?_
    refine D9 ?_
    refine q9 ?_
    refine o7 ?_
    refine j5 rfl rfl rfl ?_
    refine D9 ?_
    refine b7H rfl ?_
    refine q9 ?_
    refine o7 ?_
    refine j5 rfl rfl rfl ?_
    refine D9 ?_
    refine I7 ?_
    refine a1D (fr1:=[(0,.ptr 0 0),(1,.str s),(12,.rslice 2 0 (esc s).length true),(13,.int .i64 (((esc (s.take 0)).length:Nat):Int)),(14,.int .i64 ((0:Nat):Int))]) (H1:=[(0,.row RR),(1,.grow 1 TR),(2,.grow 1 (BUF s 0))]) (by kernel_rfl) ?_
    refine a3j (fun i:Nat=>[(0,.ptr 0 0),(1,.str s),(12,.rslice 2 0 (esc s).length true),(13,.int .i64 (((esc (s.take i)).length:Nat):Int)),(14,.int .i64 ((i:Nat):Int))]) (fun i=>[(0,.row RR),(1,.grow 1 TR),(2,.grow 1 (BUF s i))]) (fun i=>i<=s.length) (fun i=>s.length-i) 0 (Nat.zero_le _) ?_
    intro i hi ih
    have hles:=a94 s
    have hpre:=b0H s i
    have hbl:=c2g s i
    refine q9 ?_
    refine q9 ?_
    refine o7 ?_
    refine j5 rfl rfl rfl ?_
    refine j5 rfl rfl rfl ?_
    refine j5 rfl rfl rfl ?_
    refine j5 rfl rfl rfl ?_
    refine D9 ?_
    refine J4 rfl (fun g89=>?_) (fun g89=>?_)
    ·replace g89:i<s.length:=by simpa [ltN]using g89
     obtain⟨b,hb⟩:∃b,s.getD i 0=b:=⟨_,rfl⟩
     have htk:=a7U g89
     rw[hb]at htk
     have hpre2:=b0H s (i+1)
     refine D5 ?_
     refine q9 ?_
     refine I7 ?_
     refine q9 ?_
     refine o7 ?_
     refine j5 rfl rfl rfl ?_
     refine j5 rfl rfl rfl ?_
     refine j5 rfl rfl (V5 (N9 g89) (show _=some (.int .u8 (((s.getD i 0).toNat:Nat):Int))from rfl)) ?_
     rw[hb]
     refine j5 rfl rfl rfl ?_
     refine D9 ?_
     refine q9 ?_
     refine o7 ?_
     refine j5 rfl rfl rfl ?_
     refine j5 rfl rfl rfl ?_
     refine j5 rfl rfl rfl ?_
     refine j5 rfl rfl rfl ?_
     refine j5 rfl rfl (V5 (N9 (UInt8.toNat_lt b)) rfl) ?_
     rcases a6F b with⟨c,hc,he⟩ |⟨hc,he⟩
     ·refine V7 rfl rfl rfl ((a7Z b (by simp)).trans (congrArg some hc)) ?_
      refine j5 rfl rfl (c1r 2 rfl) ?_
      refine D9 ?_
      refine Q0 rfl (rfl) ?_
      refine o7 ?_
      refine j5 rfl rfl rfl ?_
      refine j5 rfl rfl rfl ?_
      refine j5 rfl rfl rfl ?_
      have hL:(esc (s.take (i+1))).length =(esc (s.take i)).length+2:=by rw[htk,he,List.length_append];rfl
      refine j5 rfl rfl (V5 (a3w (by omega) (Nat.le_refl _)) rfl) ?_
      refine j5 rfl rfl rfl ?_
      refine j5 rfl rfl rfl ?_
      refine j5 rfl rfl rfl ?_
      refine j5 rfl rfl rfl ?_
      refine j5 rfl rfl (V5 (N9 (UInt8.toNat_lt b)) rfl) ?_
      refine V7 rfl rfl rfl ((a7Z b (by simp)).trans (congrArg some hc)) ?_
      refine a00 rfl rfl (cp_ok (B:=BUF s (i+1)) (n:=(esc s).length-(esc (s.take i)).length) rfl (by omega) (by omega) (c2j g89 hb he)) ?_
      refine j5 rfl rfl (addE (k:=2) hL (by omega)) ?_
      refine j5 rfl rfl rfl ?_
      refine D9 ?_
      refine o7 ?_
      refine j5 rfl rfl rfl ?_
      refine j5 rfl rfl (add1 (by omega)) ?_
      refine j5 rfl rfl rfl ?_
      refine D9 ?_
      exact⟨[(0,.ptr 0 0),(1,.str s),(12,.rslice 2 0 (esc s).length true),(13,.int .i64 (((esc (s.take (i+1))).length:Nat):Int)),(14,.int .i64 (((i+1):Nat):Int))],[(0,.row RR),(1,.grow 1 TR),(2,.grow 1 (BUF s (i+1)))],by kernel_rfl,ih (i+1) (by omega) (by omega)⟩
     ·refine V7 rfl rfl rfl ((a7Z b (by simp)).trans (congrArg some hc)) ?_
      refine j5 rfl rfl rfl ?_
      refine D9 ?_
      refine U1 rfl (rfl) ?_
      refine q9 ?_
      refine o7 ?_
      refine j5 rfl rfl rfl ?_
      refine j5 rfl rfl rfl ?_
      refine j5 rfl rfl rfl ?_
      have hL:(esc (s.take (i+1))).length =(esc (s.take i)).length+1:=by rw[htk,he,List.length_append];rfl
      refine j5 rfl rfl (V5 (N9 (by omega)) rfl) ?_
      refine b6W rfl rfl rfl rfl (st_ok (B:=BUF s (i+1)) rfl (by omega) (c2h g89 hb he)) ?_
      refine D9 ?_
      refine o7 ?_
      refine j5 rfl rfl rfl ?_
      refine j5 rfl rfl (addE (k:=1) hL (by omega)) ?_
      refine j5 rfl rfl rfl ?_
      refine D9 ?_
      refine o7 ?_
      refine j5 rfl rfl rfl ?_
      refine j5 rfl rfl (add1 (by omega)) ?_
      refine j5 rfl rfl rfl ?_
      refine D9 ?_
      exact⟨[(0,.ptr 0 0),(1,.str s),(12,.rslice 2 0 (esc s).length true),(13,.int .i64 (((esc (s.take (i+1))).length:Nat):Int)),(14,.int .i64 (((i+1):Nat):Int))],[(0,.row RR),(1,.grow 1 TR),(2,.grow 1 (BUF s (i+1)))],by kernel_rfl,ih (i+1) (by omega) (by omega)⟩
    ·replace g89:¬i<s.length:=by simpa [ltN]using g89
     obtain rfl:i=s.length:=by omega
     refine a0g ?_
     refine⟨[(12,.slice .sealed (esc s).length ((BUF s s.length).take ((esc s).length*1)))],[(0,.row RR),(1,.grow 1 TR)],by kernel_rfl,?_⟩
     refine q9 ?_
     refine o7 ?_
     refine j5 rfl rfl rfl ?_
     refine a7q rfl rfl rfl (cv_ok s) ?_
     refine j5 rfl rfl rfl ?_
     refine D9 ?_
     exact u7 ⟨_,rfl,by kernel_rfl⟩
 ·refine q9 ?_
  refine o7 ?_
  refine j5 rfl rfl rfl ?_
  refine D9 ?_
  refine I7 ?_
  refine a1D (fr1:=[(0,.ptr 0 0),(1,.str s),(5,.int .i64 ((s.length:Nat):Int)),(6,.bool false),(10,.int .i64 ((0:Nat):Int))]) (H1:=[(0,.row RR),(1,.grow 1 TR)]) (by kernel_rfl) ?_
  refine a3j (fun x:Nat×Nat×Bool=>[(0,.ptr 0 0),(1,.str s),(5,.int .i64 ((x.2.1:Nat):Int)),(6,.bool x.2.2),(10,.int .i64 ((x.1:Nat):Int))]) (fun _=>[(0,.row RR),(1,.grow 1 TR)]) (fun x=>x.1<=s.length/\x.2.1+x.1=s.length+(esc (s.take x.1)).length/\x.2.2=decide (x.1<(esc (s.take x.1)).length)) (fun x=>s.length-x.1) (0,s.length,false) ⟨by simp,by simp[esc],by simp[esc]⟩ ?_
  rintro⟨i,ns,any⟩ ⟨hi,hns,hany⟩ ih
  simp only at hi hns hany ih ⊢
  have hge:=c08 (s.take i)
  have hle:=a94 (s.take i)
  rw[List.length_take,Nat.min_eq_left hi]at hge hle
  refine q9 ?_
  refine q9 ?_
  refine o7 ?_
  refine j5 rfl rfl rfl ?_
  refine j5 rfl rfl rfl ?_
  refine j5 rfl rfl rfl ?_
  refine j5 rfl rfl rfl ?_
  refine D9 ?_
  refine J4 rfl (fun g58=>?_) (fun g58=>?_)
  ·replace g58:i<s.length:=by simpa [ltN]using g58
   obtain⟨b,hb⟩:∃b,s.getD i 0=b:=⟨_,rfl⟩
   have htk:=a7U g58
   rw[hb]at htk
   refine D5 ?_
   refine q9 ?_
   refine I7 ?_
   refine q9 ?_
   refine o7 ?_
   refine j5 rfl rfl rfl ?_
   refine j5 rfl rfl rfl ?_
   refine j5 rfl rfl (V5 (N9 g58) (show _=some (.int .u8 (((s.getD i 0).toNat:Nat):Int))from rfl)) ?_
   rw[hb]
   refine j5 rfl rfl rfl ?_
   refine D9 ?_
   refine q9 ?_
   refine o7 ?_
   refine j5 rfl rfl rfl ?_
   refine j5 rfl rfl rfl ?_
   refine j5 rfl rfl rfl ?_
   refine j5 rfl rfl rfl ?_
   refine j5 rfl rfl (V5 (N9 (UInt8.toNat_lt b)) rfl) ?_
   rcases a6F b with⟨c,hc,he⟩ |⟨hc,he⟩
   ·refine V7 rfl rfl rfl ((a7Z b (by simp)).trans (congrArg some hc)) ?_
    refine j5 rfl rfl (c1r 2 rfl) ?_
    refine D9 ?_
    refine Q0 rfl (rfl) ?_
    refine q9 ?_
    refine o7 ?_
    refine j5 rfl rfl rfl ?_
    refine j5 rfl rfl rfl ?_
    refine j5 rfl rfl rfl ?_
    refine j5 rfl rfl rfl ?_
    refine j5 rfl rfl rfl ?_
    refine j5 rfl rfl (V5 (N9 (UInt8.toNat_lt b)) rfl) ?_
    refine V7 rfl rfl rfl ((a7Z b (by simp)).trans (congrArg some hc)) ?_
    refine j5 rfl rfl rfl ?_
    refine j5 rfl rfl rfl ?_
    refine j5 rfl rfl (addN (k:=1) (by omega)) ?_
    refine j5 rfl rfl rfl ?_
    refine D9 ?_
    refine o7 ?_
    refine j5 rfl rfl rfl ?_
    refine D9 ?_
    refine o7 ?_
    refine j5 rfl rfl rfl ?_
    refine j5 rfl rfl (add1 (by omega)) ?_
    refine j5 rfl rfl rfl ?_
    refine D9 ?_
    exact⟨[(0,.ptr 0 0),(1,.str s),(5,.int .i64 ((ns+1:Nat):Int)),(6,.bool true),(10,.int .i64 ((i+1:Nat):Int))],[(0,.row RR),(1,.grow 1 TR)],by kernel_rfl,ih (i+1,ns+1,true) (by simp only;omega) ⟨by simp only;omega,by rw[htk,he];simp only[List.length_append,List.length_cons,List.length_nil];omega,by rw[htk,he];simp only[List.length_append,List.length_cons,List.length_nil];symm;simp only[decide_eq_true_eq];omega⟩⟩
   ·refine V7 rfl rfl rfl ((a7Z b (by simp)).trans (congrArg some hc)) ?_
    refine j5 rfl rfl rfl ?_
    refine D9 ?_
    refine U1 rfl (rfl) ?_
    refine D5 ?_
    refine o7 ?_
    refine j5 rfl rfl rfl ?_
    refine j5 rfl rfl (add1 (by omega)) ?_
    refine j5 rfl rfl rfl ?_
    refine D9 ?_
    exact⟨[(0,.ptr 0 0),(1,.str s),(5,.int .i64 ((ns:Nat):Int)),(6,.bool any),(10,.int .i64 ((i+1:Nat):Int))],[(0,.row RR),(1,.grow 1 TR)],by kernel_rfl,ih (i+1,ns,any) (by simp only;omega) ⟨by simp only;omega,by rw[htk,he];simp only[List.length_append,List.length_cons,List.length_nil];omega,by rw[hany,htk,he];simp only[List.length_append,List.length_cons,List.length_nil];congr 1;simp only[eq_iff_iff];omega⟩⟩
  ·replace g58:¬i<s.length:=by simpa [ltN]using g58
   obtain rfl:i=s.length:=by omega
   rw[List.take_length]at hns hany
   obtain rfl:ns =(esc s).length:=by omega
   refine a0g ?_
   refine q9 ?_
   refine q9 ?_
   refine o7 ?_
   refine j5 rfl rfl rfl ?_
   refine j5 rfl rfl rfl ?_
   refine D9 ?_
   refine J4 rfl (fun g82=>?_) (fun g82=>?_)
   ·have hs1:=b4V (s:=s) (by rw[hany]at g82;simpa using g82)
    rw[hs1]
    refine q9 ?_
    refine o7 ?_
    refine j5 rfl rfl rfl ?_
    refine j5 rfl rfl rfl ?_
    refine D9 ?_
    exact u7 ⟨_,rfl,by kernel_rfl⟩
   ·refine D5 ?_
    refine q9 ?_
    refine o7 ?_
    refine j5 rfl rfl rfl ?_
    refine a00 rfl rfl (mk_ok (esc s).length (by have:=a94 s;omega) rfl) ?_
    refine j5 rfl rfl rfl ?_
    refine D9 ?_
    refine q9 ?_
    refine o7 ?_
    refine j5 rfl rfl rfl ?_
    refine D9 ?_
    refine b7H rfl ?_
    refine q9 ?_
    refine o7 ?_
    refine j5 rfl rfl rfl ?_
    refine D9 ?_
    refine I7 ?_
    refine a1D (fr1:=[(0,.ptr 0 0),(1,.str s),(12,.rslice 2 0 (esc s).length true),(13,.int .i64 (((esc (s.take 0)).length:Nat):Int)),(14,.int .i64 ((0:Nat):Int))]) (H1:=[(0,.row RR),(1,.grow 1 TR),(2,.grow 1 (BUF s 0))]) (by kernel_rfl) ?_
    refine a3j (fun i:Nat=>[(0,.ptr 0 0),(1,.str s),(12,.rslice 2 0 (esc s).length true),(13,.int .i64 (((esc (s.take i)).length:Nat):Int)),(14,.int .i64 ((i:Nat):Int))]) (fun i=>[(0,.row RR),(1,.grow 1 TR),(2,.grow 1 (BUF s i))]) (fun i=>i<=s.length) (fun i=>s.length-i) 0 (Nat.zero_le _) ?_
    intro i hi ih
    have hles:=a94 s
    have hpre:=b0H s i
    have hbl:=c2g s i
    refine q9 ?_
    refine q9 ?_
    refine o7 ?_
    refine j5 rfl rfl rfl ?_
    refine j5 rfl rfl rfl ?_
    refine j5 rfl rfl rfl ?_
    refine j5 rfl rfl rfl ?_
    refine D9 ?_
    refine J4 rfl (fun g89=>?_) (fun g89=>?_)
    ·replace g89:i<s.length:=by simpa [ltN]using g89
     obtain⟨b,hb⟩:∃b,s.getD i 0=b:=⟨_,rfl⟩
     have htk:=a7U g89
     rw[hb]at htk
     have hpre2:=b0H s (i+1)
     refine D5 ?_
     refine q9 ?_
     refine I7 ?_
     refine q9 ?_
     refine o7 ?_
     refine j5 rfl rfl rfl ?_
     refine j5 rfl rfl rfl ?_
     refine j5 rfl rfl (V5 (N9 g89) (show _=some (.int .u8 (((s.getD i 0).toNat:Nat):Int))from rfl)) ?_
     rw[hb]
     refine j5 rfl rfl rfl ?_
     refine D9 ?_
     refine q9 ?_
     refine o7 ?_
     refine j5 rfl rfl rfl ?_
     refine j5 rfl rfl rfl ?_
     refine j5 rfl rfl rfl ?_
     refine j5 rfl rfl rfl ?_
     refine j5 rfl rfl (V5 (N9 (UInt8.toNat_lt b)) rfl) ?_
     rcases a6F b with⟨c,hc,he⟩ |⟨hc,he⟩
     ·refine V7 rfl rfl rfl ((a7Z b (by simp)).trans (congrArg some hc)) ?_
      refine j5 rfl rfl (c1r 2 rfl) ?_
      refine D9 ?_
      refine Q0 rfl (rfl) ?_
      refine o7 ?_
      refine j5 rfl rfl rfl ?_
      refine j5 rfl rfl rfl ?_
      refine j5 rfl rfl rfl ?_
      have hL:(esc (s.take (i+1))).length =(esc (s.take i)).length+2:=by rw[htk,he,List.length_append];rfl
      refine j5 rfl rfl (V5 (a3w (by omega) (Nat.le_refl _)) rfl) ?_
      refine j5 rfl rfl rfl ?_
      refine j5 rfl rfl rfl ?_
      refine j5 rfl rfl rfl ?_
      refine j5 rfl rfl rfl ?_
      refine j5 rfl rfl (V5 (N9 (UInt8.toNat_lt b)) rfl) ?_
      refine V7 rfl rfl rfl ((a7Z b (by simp)).trans (congrArg some hc)) ?_
      refine a00 rfl rfl (cp_ok (B:=BUF s (i+1)) (n:=(esc s).length-(esc (s.take i)).length) rfl (by omega) (by omega) (c2j g89 hb he)) ?_
      refine j5 rfl rfl (addE (k:=2) hL (by omega)) ?_
      refine j5 rfl rfl rfl ?_
      refine D9 ?_
      refine o7 ?_
      refine j5 rfl rfl rfl ?_
      refine j5 rfl rfl (add1 (by omega)) ?_
      refine j5 rfl rfl rfl ?_
      refine D9 ?_
      exact⟨[(0,.ptr 0 0),(1,.str s),(12,.rslice 2 0 (esc s).length true),(13,.int .i64 (((esc (s.take (i+1))).length:Nat):Int)),(14,.int .i64 (((i+1):Nat):Int))],[(0,.row RR),(1,.grow 1 TR),(2,.grow 1 (BUF s (i+1)))],by kernel_rfl,ih (i+1) (by omega) (by omega)⟩
     ·refine V7 rfl rfl rfl ((a7Z b (by simp)).trans (congrArg some hc)) ?_
      refine j5 rfl rfl rfl ?_
      refine D9 ?_
      refine U1 rfl (rfl) ?_
      refine q9 ?_
      refine o7 ?_
      refine j5 rfl rfl rfl ?_
      refine j5 rfl rfl rfl ?_
      refine j5 rfl rfl rfl ?_
      have hL:(esc (s.take (i+1))).length =(esc (s.take i)).length+1:=by rw[htk,he,List.length_append];rfl
      refine j5 rfl rfl (V5 (N9 (by omega)) rfl) ?_
      refine b6W rfl rfl rfl rfl (st_ok (B:=BUF s (i+1)) rfl (by omega) (c2h g89 hb he)) ?_
      refine D9 ?_
      refine o7 ?_
      refine j5 rfl rfl rfl ?_
      refine j5 rfl rfl (addE (k:=1) hL (by omega)) ?_
      refine j5 rfl rfl rfl ?_
      refine D9 ?_
      refine o7 ?_
      refine j5 rfl rfl rfl ?_
      refine j5 rfl rfl (add1 (by omega)) ?_
      refine j5 rfl rfl rfl ?_
      refine D9 ?_
      exact⟨[(0,.ptr 0 0),(1,.str s),(12,.rslice 2 0 (esc s).length true),(13,.int .i64 (((esc (s.take (i+1))).length:Nat):Int)),(14,.int .i64 (((i+1):Nat):Int))],[(0,.row RR),(1,.grow 1 TR),(2,.grow 1 (BUF s (i+1)))],by kernel_rfl,ih (i+1) (by omega) (by omega)⟩
    ·replace g89:¬i<s.length:=by simpa [ltN]using g89
     obtain rfl:i=s.length:=by omega
     refine a0g ?_
     refine⟨[(12,.slice .sealed (esc s).length ((BUF s s.length).take ((esc s).length*1)))],[(0,.row RR),(1,.grow 1 TR)],by kernel_rfl,?_⟩
     refine q9 ?_
     refine o7 ?_
     refine j5 rfl rfl rfl ?_
     refine a7q rfl rfl rfl (cv_ok s) ?_
     refine j5 rfl rfl rfl ?_
     refine D9 ?_
     exact u7 ⟨_,rfl,by kernel_rfl⟩
end Go.Proofs.YtmippldlhnajkaaGreatDoor.Rp
namespace Go.Proofs.YtmippldlhnajkaaGreatDoor.Rp
open Go Go.Vm
theorem b8T {env:Env}{orc:Orc}{H:Hp}{k g:Nat}{args ac:List V}{ns:List Nat}{H3 H4 Hc:Hp}{v v4:V}(hq:env.quiet g=false)(hp:a6c env g args H=some (ns,ac,Hc))(hc:orc (.call g ac) Hc=some (.ret v H3))(h7:a4t (a0u (H7 ns k) dep v)=some v4)
  (h8:U7 (a0w (H7 ns k) H3 H)=some H4) (h9:a2W H H3 k ns.length=true):R4 env orc k g args H=some (.val v4 H4):=by
 rw[a1n]at h8
 rw[a7X]at h7
 obtain⟨O3,H2,h1,h2,h3,h4⟩:=a6d hp
 simp only[R4,hq,h1,h2,h3,h4,hc,h7,h8,h9]
theorem c3M {env:Env}{orc:Orc}{ops:Array Oper}{o:Oper}{rest:List Oper}{fr:Fr}{H H1:Hp}{K:Res->Prop}{rc:Operand}{m:String}{args:Array Operand}{at_:Array TypeId}{t g:Nat}{v0 v:V}{l:List V}
  (hw:A7 ops o fr=some true) (ho:o.op=.call ⟨.invoke rc m,args,at_⟩) (hr:ev fr rc=some (.iface t v0)) (hl:evL fr args.toList=some l) (hm:env.meth t m=some g) (hc:R4 env orc (newName o) g (v0::l) H=some (.val v H1))
  (h:Go.Vm.Os env orc ops rest (P6 o.dst v fr) H1 K):Go.Vm.Os env orc ops (o::rest) fr H K:=by
 have hp:K7 o.op=false:=by rw[ho];rfl
 refine a00 hw hp (v:=v) (H1:=H1) ?_ h
 unfold O6
 rw[ho]
 simp only[hr,hl,hm,hc]
theorem do_E:E env (.call 175 [.ptr 0 0,.func (.func 176) [.ptr 0 0] []]) [(0,.row [.int .u32 0,.int .i32 0,.int .u32 0,.nilIface,.slice (.tag 1) 8 pairs]),(1,.tip 1 8)]=some (.ret (.tuple []) [(0,.row [.int .u32 1,.int .i32 0,.int .u32 0,.iface 212 (.ptr 2 0),.slice .nil 0 []]),(1,.tip 1 8),(2,.row ((List.range 256).map cell++[.rslice 3 0 4 true])),(3,.grow 1 TR)]) :=
 E_via (g':=176) (l:=[.ptr 0 0]) (H':=[(0,.row [.int .u32 0,.int .i32 1,.int .u32 0,.nilIface,.slice (.tag 1) 8 pairs]),(1,.tip 1 8)]) rfl (by kernel_rfl) bu_E (by kernel_rfl)
theorem rp_E (s:List UInt8)(hs:s.length<=1000000):E env (.call 143 [.ptr 0 0,.str s]) [(0,.row [.int .u32 0,.int .i32 0,.int .u32 0,.nilIface,.slice (.tag 1) 8 pairs]),(1,.tip 1 8)]=some (.ret (.str (esc s)) [(0,.row [.int .u32 1,.int .i32 0,.int .u32 0,.iface 212 (.ptr 2 0),.slice .nil 0 []]),(1,.tip 1 8),(2,.row ((List.range 256).map cell++[.rslice 3 0 4 true])),(3,.grow 1 TR)]):=by
 refine M0 (env:=env) rfl Tryz.func143 rfl rfl ?_
 refine q9 ?_
 refine o7 ?_
 refine j5 rfl rfl rfl ?_
 refine D9 ?_
 refine q9 ?_
 refine o7 ?_
 refine j5 rfl rfl rfl ?_
 refine j5 rfl rfl rfl ?_
 refine j5 rfl rfl rfl ?_
 refine j5 rfl rfl rfl ?_
 refine j5 rfl rfl rfl ?_
 refine b0U (v:=.tuple []) (H1:=[(0,.row [.int .u32 1,.int .i32 0,.int .u32 0,.iface 212 (.ptr 704 0),.slice .nil 0 []]),(1,.tip 1 8),(704,.row ((List.range 256).map cell++[.rslice 705 0 4 true])),(705,.grow 1 TR)]) rfl rfl rfl (a4s (ns:=[0,1]) (ac:=[.ptr 0 0,.func (.func 176) [.ptr 0 0] []]) (Hc:=[(0,.row [.int .u32 0,.int .i32 0,.int .u32 0,.nilIface,.slice (.tag 1) 8 pairs]),(1,.tip 1 8)]) rfl (by kernel_rfl) do_E (by kernel_rfl) (by kernel_rfl) (by kernel_rfl)) ?_
 refine D9 ?_
 refine q9 ?_
 refine o7 ?_
 refine j5 rfl rfl rfl ?_
 refine j5 rfl rfl rfl ?_
 refine j5 rfl rfl rfl ?_
 refine V7 rfl rfl rfl (v:=.iface 212 (.ptr 704 0)) (by kernel_rfl) ?_
 refine j5 rfl rfl rfl ?_
 refine c3M (g:=319) (v:=.str (esc s)) (H1:=[(0,.row [.int .u32 1,.int .i32 0,.int .u32 0,.iface 212 (.ptr 704 0),.slice .nil 0 []]),(1,.tip 1 8),(704,.row ((List.range 256).map cell++[.rslice 705 0 4 true])),(705,.grow 1 TR)]) rfl rfl rfl rfl rfl (b8T (ns:=[704,705]) (ac:=[.ptr 0 0,.str s]) (Hc:=[(0,.row RR),(1,.grow 1 TR)]) rfl (by kernel_rfl) (bs_E s hs) (by kernel_rfl) (by kernel_rfl) (by kernel_rfl)) ?_
 refine j5 rfl rfl rfl ?_
 refine D9 ?_
 exact u7 ⟨.str (esc s),by kernel_rfl,by kernel_rfl⟩
theorem esc_E (s:List UInt8)(hs:s.length<=1000000):E env (.call 78 [.str s]) []=some (.ret (.str (esc s)) []):=by
 refine M0 (env:=env) rfl Tryz.func78 rfl rfl ?_
 refine q9 ?_
 refine o7 ?_
 refine j5 rfl rfl rfl ?_
 refine D9 ?_
 refine q9 ?_
 refine o7 ?_
 refine j5 rfl rfl rfl ?_
 refine b0U (v:=.ptr 320 0) (H1:=[(320,.row [.int .u32 0,.int .i32 0,.int .u32 0,.nilIface,.slice (.tag 321) 8 pairs]),(321,.tip 1 8)]) rfl rfl rfl (a4s (ns:=[]) (ac:=[.slice .sealed 8 pairs]) (Hc:=[]) rfl (by kernel_rfl) nr_E (by kernel_rfl) (by kernel_rfl) (by kernel_rfl)) ?_
 refine j5 rfl rfl rfl ?_
 refine b0U (v:=.str (esc s)) (H1:=[(320,.row [.int .u32 1,.int .i32 0,.int .u32 0,.iface 212 (.ptr 448 0),.slice .nil 0 []]),(321,.tip 1 8),(448,.row ((List.range 256).map cell++[.rslice 449 0 4 true])),(449,.grow 1 TR)]) rfl rfl rfl (a4s (ns:=[320,321]) (ac:=[.ptr 0 0,.str s]) (Hc:=[(0,.row [.int .u32 0,.int .i32 0,.int .u32 0,.nilIface,.slice (.tag 1) 8 pairs]),(1,.tip 1 8)]) rfl (by kernel_rfl) (rp_E s hs) (by kernel_rfl) (by kernel_rfl) (by kernel_rfl)) ?_
 refine j5 rfl rfl rfl ?_
 refine D9 ?_
 exact u7 ⟨.str (esc s),by kernel_rfl,by kernel_rfl⟩
def escF:List V->Option V:=fun args=>match args with
 | [.str s]=>match leN s.length 1000000 with
  | true=>some (.str (esc s))
  | false=>none
 | _=>none
theorem b4U:a6A Tryz.prog 78 (a7R escF):=by
 refine b4F b3G (fun args v h=>?_) ⟨_,_,Tryz.func78,by kernel_rfl,rfl⟩
 unfold escF at h
 split at h
 ·rename_i s
  split at h
  ·rename_i hs
   cases h
   exact⟨rfl,rfl,esc_E s (a3K hs)⟩
  ·cases h
 ·cases h
end Go.Proofs.YtmippldlhnajkaaGreatDoor.Rp
namespace Go.Proofs
open Go.Shelf
def Tryz.b7W:Go.Shelf.Ren:=⟨fun|171=>84|243=>148|246=>178|283=>201|284=>202|285=>203|286=>204|129=>228|317=>227|318=>229|319=>230|320=>231|337=>248|338=>249|n=>n,fun|3=>3|9=>9|2=>2|4=>4|171=>183|0=>0|53=>184|37=>54|5=>5|173=>187|212=>215|51=>163|20=>20|213=>216|46=>217|232=>247|233=>248|n=>n,fun|17=>1|18=>2|19=>3|n=>n⟩
theorem Tryz.laysM171:Go.Proofs.LaysM.n171 Tryz.prog Tryz.b7W:={
 mixed:=by kernel_rfl
 f129:=Tryz.func228.trans (congrArg some (by kernel_rfl))
 f171:=Tryz.func84.trans (congrArg some (by kernel_rfl))
 f243:=Tryz.func148.trans (congrArg some (by kernel_rfl))
 f246:=Tryz.func178.trans (congrArg some (by kernel_rfl))
 f283:=Tryz.func201.trans (congrArg some (by kernel_rfl))
 f284:=Tryz.func202.trans (congrArg some (by kernel_rfl))
 f285:=Tryz.func203.trans (congrArg some (by kernel_rfl))
 f286:=Tryz.func204.trans (congrArg some (by kernel_rfl))
 f317:=Tryz.func227.trans (congrArg some (by kernel_rfl))
 f318:=Tryz.func229.trans (congrArg some (by kernel_rfl))
 f319:=Tryz.func230.trans (congrArg some (by kernel_rfl))
 f320:=Tryz.func231.trans (congrArg some (by kernel_rfl))
 f337:=Tryz.func248.trans (congrArg some (by kernel_rfl))
 f338:=Tryz.func249.trans (congrArg some (by kernel_rfl))
 t0:=Tryz.underlying0
 a0:=Tryz.isAgg0
 z0:=Tryz.sizeOf0
 v0:=Tryz.zeroValue0
 t2:=Tryz.underlying2
 a2:=Tryz.isAgg2
 z2:=Tryz.sizeOf2
 v2:=Tryz.zeroValue2
 t3:=Tryz.underlying3
 a3:=Tryz.isAgg3
 z3:=Tryz.sizeOf3
 v3:=Tryz.zeroValue3
 t4:=Tryz.underlying4
 a4:=Tryz.isAgg4
 z4:=Tryz.sizeOf4
 v4:=Tryz.zeroValue4
 t5:=Tryz.underlying5
 a5:=Tryz.isAgg5
 z5:=Tryz.sizeOf5
 v5:=Tryz.zeroValue5
 t9:=Tryz.underlying9
 a9:=Tryz.isAgg9
 z9:=Tryz.sizeOf9
 v9:=Tryz.zeroValue9
 t20:=Tryz.underlying20
 a20:=Tryz.isAgg20
 z20:=Tryz.sizeOf20
 v20:=Tryz.zeroValue20
 t37:=Tryz.underlying54
 a37:=Tryz.isAgg54
 z37:=Tryz.sizeOf54
 v37:=Tryz.zeroValue54
 t46:=Tryz.underlying217
 a46:=Tryz.isAgg217
 z46:=Tryz.sizeOf217
 v46:=Tryz.zeroValue217
 t51:=Tryz.underlying163
 a51:=Tryz.isAgg163
 z51:=Tryz.sizeOf163
 v51:=Tryz.zeroValue163
 t53:=Tryz.underlying184
 a53:=Tryz.isAgg184
 z53:=Tryz.sizeOf184
 v53:=Tryz.zeroValue184
 t171:=Tryz.underlying183
 a171:=Tryz.isAgg183
 z171:=Tryz.sizeOf183
 v171:=Tryz.zeroValue183
 t173:=Tryz.underlying187
 a173:=Tryz.isAgg187
 z173:=Tryz.sizeOf187
 v173:=Tryz.zeroValue187
 t212:=Tryz.underlying215
 a212:=Tryz.isAgg215
 z212:=Tryz.sizeOf215
 v212:=Tryz.zeroValue215
 t213:=Tryz.underlying216
 a213:=Tryz.isAgg216
 z213:=Tryz.sizeOf216
 t232:=Tryz.underlying247
 a232:=Tryz.isAgg247
 z232:=Tryz.sizeOf247
 v232:=Tryz.zeroValue247
 t233:=Tryz.underlying248
 a233:=Tryz.isAgg248
 z233:=Tryz.sizeOf248
 v233:=Tryz.zeroValue248
 g17:=by kernel_rfl
 g18:=by kernel_rfl
 g19:=by kernel_rfl
 i0:=by kernel_rfl
 i2:=by kernel_rfl
 i3:=by kernel_rfl
 i4:=by kernel_rfl
 i5:=by kernel_rfl
 i9:=by kernel_rfl
 i20:=by kernel_rfl
 i37:=by kernel_rfl
 i46:=by kernel_rfl
 i51:=by kernel_rfl
 i53:=by kernel_rfl
 i171:=by kernel_rfl
 i173:=by kernel_rfl
 i212:=by kernel_rfl
 i232:=by kernel_rfl
 i233:=by kernel_rfl
 m17:=by kernel_rfl
 m18:=by kernel_rfl
 m19:=by kernel_rfl}
open Go.RowKit Go.Sort Go.Lib in
theorem Tryz.strconv_Itoa (n:Int) (h0:-9223372036854775808<=n) (h1:n<=9223372036854775807) (w:World) (htab:Lib.TabIs Tryz.prog w "internal/strconv.uint64pow10" .u64 Lib.pow10Tab) :
  Calls Tryz.prog 84 #[.int .i64 n] w fun e w'=>e=.returned (.string ⟨(Lib.itoa n).toArray⟩) /\ ∃k os,w'=grow (w.drewN k) os:=Any.strconv_Itoa Tryz.laysM171 n h0 h1 w htab
end Go.Proofs
namespace Go.Proofs.YtmippldlhnajkaaGreatDoor
open Go Go.Vm
def rngB (n:Int):Bool:=decide (-9223372036854775808<=n)&&decide (n<=9223372036854775807)
def b9c:List V->Option V
 | [.int .i64 n]=>match rngB n with
  | true=>some (.str (Lib.itoa n))
  | false=>none
 | _=>none
theorem tab_at {w:World} (h:KpW w):Lib.TabIs Tryz.prog w "internal/strconv.uint64pow10" .u64 Lib.pow10Tab:=by
 obtain⟨_,t,fr,h⟩:=h
 unfold Lib.TabIs World.var?
 rw[show Tryz.prog.globalNamed "internal/strconv.uint64pow10" = some kpG by kernel_rfl]
 simp only[Option.bind_some,h]
 rfl
theorem b6I:a6A Tryz.prog 84 (a7R b9c):=by
 refine⟨fun args H out h ρ lab w xs hc hS hx=>?_,⟨_,_,Tryz.func84,rfl,rfl⟩⟩
 unfold a7R b9c at h
 split at h
 ·rename_i v hv
  cases h
  split at hv
  ·rename_i n
   split at hv
   ·rename_i hb
    cases hv
    simp only[rngB,Bool.and_eq_true,decide_eq_true_eq]at hb
    obtain⟨x1,r1,rfl,a1,a2⟩:=C8.1 hx
    have:r1=[]:=by have:=a2.1;simpa using this
    subst this
    cases a1
    refine(Tryz.strconv_Itoa n hb.1 hb.2 w (tab_at hS.kp.1)).mono fun e w' ⟨he,k,os,hw⟩=>?_
    subst he hw
    have hg:Z5 w (Go.Sort.grow (w.drewN k) os):=b1C (Lib.below_grow _ w (Nat.le_refl _) k os)
    exact⟨ρ,lab,hS.grew hg,hg.ext lab,⟨fun _ _ _ h=>h,fun _ _ _ _ h=>h⟩,.str _,hc,Nat.le_refl _⟩
   ·cases hv
  ·cases hv
 ·cases h
theorem b8Z:∀(k u:Nat),u<10^(k+1)->Lib.nDigits u<=k+1
 | 0,u,h=>by rw[Lib.nDigits_small (by simpa using h)];omega
 | k+1,u,h=>by
  by_cases hu:u<10
  ·rw[Lib.nDigits_small hu];omega
  ·rw[Lib.nDigits_big hu]
   have:=b8Z k (u/10) (by rw[Nat.div_lt_iff_lt_mul (by omega),<-Nat.pow_succ];exact h)
   omega
theorem b5a {n:Int}(h:rngB n=true):1 <=(Lib.itoa n).length/\(Lib.itoa n).length<=30:=by
 simp only[rngB,Bool.and_eq_true,decide_eq_true_eq]at h
 have d:∀u:Nat,u<=9223372036854775808->1 <=(Lib.decDigits u).length/\(Lib.decDigits u).length<=20:=fun u hu=>by
  rw[Lib.decDigits_length]
  exact⟨Lib.nDigits_pos u,b8Z 19 u (by omega)⟩
 unfold Lib.itoa
 split
 ·have:=d n.natAbs (by omega)
  simp only[List.length_cons]
  omega
 ·have:=d n.toNat (by omega)
  omega
end Go.Proofs.YtmippldlhnajkaaGreatDoor
namespace Go.Proofs.YtmippldlhnajkaaGreatDoor
open Go Go.Vm
def cvTok (t:Sc.Tok):Tok:=⟨t.k,t.t,(t.a:Nat),(t.l:Nat)⟩
def a9R:Sc.MR->List Tok
 | .done l=>l.map cvTok
 | _=>[]
def b3w:Sc.MR->Int
 | .err c _=>c
 | _=>0
def tokA:Sc.MR->Int
 | .err _ a=>(a:Nat)
 | _=>0
theorem b8W:∀l:List Sc.Tok,F7 (l.map cvTok)=Sc.a1m l
 | []=>rfl
 | t::r=>by
  rw[List.map_cons,c05.cons,b8W r]
  rfl
theorem tokV_cv {r:Sc.MR}(h:Sc.RBd r):Sc.b0A r=.tuple [.slice .sealed (List.length (a9R r)) (F7 (a9R r)),.agg [.int .i64 (b3w r),.int .i64 (tokA r)]]:=by
 cases r with
 | go x=>exact h.elim
 | done l =>
  simp only[a9R,Sc.b0A,b8W,List.length_map,b3w,tokA]
 | err c a=>rfl
theorem tok_call {env:Env}{g:Nat}{s:Str}(hi:env.intr g=some (.plain (a7R Sc.tokF)))(h:Sc.RBd (Sc.a5k s)) :
  E env (.call g [.str s]) []=some (.ret (.tuple [.slice .sealed (List.length (a9R (Sc.a5k s))) (F7 (a9R (Sc.a5k s))),.agg [.int .i64 (b3w (Sc.a5k s)),.int .i64 (tokA (Sc.a5k s))]]) []):=by
 refine a8C hi ?_
 rw[<-tokV_cv h]
 rfl
theorem tokL_len (s:Str):(a9R (Sc.a5k s)).length<=3000:=by
 have h:=(Sc.b03 s).1
 generalize Sc.a5k s=r at h
 cases r with
 | go x=>exact h.elim
 | done l=>simpa [a9R,Sc.RBd]using h
 | err c a=>simp[a9R]
end Go.Proofs.YtmippldlhnajkaaGreatDoor
namespace Go.Proofs.YtmippldlhnajkaaGreatDoor
open Go Go.Vm
def b4P:Option Bool:=some true
noncomputable def a9b (a1N:Str):Option (List Tok×Int×Int):=some (a9R (Sc.a5k a1N),b3w (Sc.a5k a1N),tokA (Sc.a5k a1N))
def b33 (s1:Str):Option Str:=match leN s1.length 1000000 with
 | true=>some (Rp.esc s1)
 | false=>none
def b3J (i1:Int):Option Str:=match rngB i1 with
 | true=>some (Lib.itoa i1)
 | false=>none
def b3K (elems1:List Str)(sep2:Str):Option Str:=match leN elems1.length 140737488355328&&leN (Lib.join elems1 sep2).length 140737488355328 with
 | true=>some (Lib.join elems1 sep2)
 | false=>none
def escR (s1:Str):Option Str:=match leN s1.length 1000000 with
 | true=>some (Rp.esc s1)
 | false=>none
end Go.Proofs.YtmippldlhnajkaaGreatDoor
namespace Go.Proofs.YtmippldlhnajkaaGreatDoor
open Go Go.Vm
def a6J (a1N:Str):Option (Unit) :=
 some (())
def b5e (a1N:Str):Unit->Out
 | _=>.ret (.bool (ltB 8200 (List.length a1N:Int))) []
structure M8 where
 a0X:Nod->Option (Int×Int)
def a5B (n:Nat)(Φ:M8)(n1:Nod):Nat->Int->Int->Int->Option (Int×Int)
  | 0,_,_,_=>none
  | m3 + 1,b9z,c2t,b35 =>
      cond (ltB b35 (List.length n1.l:Int)) (
      (idx' n1.l b35).bind fun x2 =>
      (Φ.a0X x2).bind fun(r3,r4) =>
      a5B n Φ n1 m3 (w64 (b9z+r3)) (max c2t r4) (w64 (b35+1))) (
      some (b9z,c2t))
def a4Y (n:Nat)(Φ:M8)(n1:Nod):Option (Int×Int) :=
 Option.bind (α:=Int×Int) (
 a5B n Φ n1 n 1 0 0) fun(nodes510,deep511) =>
 some ((nodes510,(w64 (deep511+1))))
def b0r (n1:Nod):Int×Int->Out
 |(b39,b2C)=>.ret (.tuple [.i b39,.i b2C]) []
def M8.fs:Nat->M8
 | 0=>⟨fun _=>none⟩
 | n+1=>⟨a4Y n (M8.fs n)⟩
def a0X (n:Nat)(n1:Nod):Option (Int×Int):=(M8.fs n).a0X n1
def a6m:Option (Unit) :=
 some (())
def b3o:Unit->Out
 | _=>.ret (.slice .sealed (List.length ([[[124,124]],[[38,38]],[[61,61],[33,61],[60],[60,61],[62],[62,61]],[[43],[45]],[[42],[47],[37]]]:List (List Str))) ((clSl clS) ([[[124,124]],[[38,38]],[[61,61],[33,61],[60],[60,61],[62],[62,61]],[[43],[45]],[[42],[47],[37]]]:List (List Str)))) []
def D6 (a04:Int)(a5S:Str)(l3:List Tok)(a9p at5 a3k:Int):Option (Bool) :=
 cond (ltB at5 (List.length l3:Int)) (
 (idx' l3 at5).bind fun x7 =>
 cond (eqB x7.kind a04) (
 (idx' l3 at5).bind fun x8 =>
 some ((eqS x8.text a5S))) (
 some (false))) (
 some (false))
def a9J (a04:Int)(a5S:Str)(l3:List Tok)(a9p at5 a3k:Int):Bool->Out
 | U3=>.ret (.bool U3) (hR F7 l3 a9p at5 a3k)
def L8 (a04:Int)(l2:List Tok)(F6 at4 z8:Int):Option (Bool) :=
 cond (ltB at4 (List.length l2:Int)) (
 (idx' l2 at4).bind fun x6 =>
 some ((eqB x6.kind a04))) (
 some (false))
def a8p (a04:Int)(l2:List Tok)(F6 at4 z8:Int):Bool->Out
 | U3=>.ret (.bool U3) (hR F7 l2 F6 at4 z8)
def F4 (l1:List Tok)(o6 at3 j4:Int):Option (Int) :=
 cond (ltB at3 (List.length l1:Int)) (
 (idx' l1 at3).bind fun x5 =>
 some (x5.at_)) (
 some (o6))
def a8q (l1:List Tok)(o6 at3 j4:Int):Int->Out
 | U3=>.ret (.i U3) (hR F7 l1 o6 at3 j4)
def D7 (a04:Int)(l2:List Tok)(F6 at4 z8:Int):Option (Str×Bool×Int) :=
 (L8 a04 l2 F6 at4 z8).bind fun r6 =>
 cond r6 (
 (idx' l2 at4).bind fun x7 =>
 some ((x7.text,true,(w64 (at4+1))))) (
 some (([],false,at4)))
def a9P (a04:Int)(l2:List Tok)(F6 at4 z8:Int):Str×Bool×Int->Out
 |(U3,r502,b3z)=>.ret (.tuple [.str U3,.bool r502]) (hR F7 l2 F6 b3z z8)
def Y9 (a04:Int)(a5S:Str)(l3:List Tok)(a9p at5 a3k:Int):Option (Bool×Int) :=
 (D6 a04 a5S l3 a9p at5 a3k).bind fun r7 =>
 cond r7 (
 some ((true,(w64 (at5+1))))) (
 some ((false,at5)))
def a9O (a04:Int)(a5S:Str)(l3:List Tok)(a9p at5 a3k:Int):Bool×Int->Out
 |(U3,b8J)=>.ret (.bool U3) (hR F7 l3 a9p b8J a3k)
def o8 (s1:Str)(l2:List Tok)(F6 at4 z8:Int):Option (Bool×Int) :=
 (Y9 8 s1 l2 F6 at4 z8).bind fun(r6,at7) =>
 some ((r6,at7))
def a9N (s1:Str)(l2:List Tok)(F6 at4 z8:Int):Bool×Int->Out
 |(U3,b8J)=>.ret (.bool U3) (hR F7 l2 F6 b8J z8)
def a0o (n:Nat)(o6:Int)(l1:List Tok)(j4 r5:Int):Nat->Bool->Int->Int->Str ->(List Nod)->Option (Bool×Int×Int×Str×List Nod)
  | 0,_,_,_,_,_=>none
  | m4 + 1,ok503,at504,op505,s506,l507 =>
      Option.bind (α:=Bool×Int) (
      cond ok503 (
      (o8 [46] l1 o6 at504 j4).bind fun(r9,at10) =>
      some (r9,at10)) (
      some (false,at504))) fun(x517,a9i) =>
      cond x517 (
      (D7 1 l1 o6 a9i j4).bind fun(r11,r12,at13) =>
      a0o n o6 l1 j4 r5 m4 r12 at13 55 r11 ([(⟨op505,s506,0,(⟨0,[],0,[]⟩:Typ),[],l507,r5⟩:Nod)]:List Nod)) (
      some (ok503,a9i,op505,s506,l507))
def a2s (n:Nat)(l1:List Tok)(o6 at3 j4:Int):Option (Nod×Bool×Int) :=
 (F4 l1 o6 at3 j4).bind fun r5 =>
 (D7 1 l1 o6 at3 j4).bind fun(r6,r7,at8) =>
 Option.bind (α:=Bool×Int×Int×Str×List Nod) (
 a0o n o6 l1 j4 r5 n r7 at8 54 r6 ([]:List Nod)) fun(ok524,b3B,op526,s527,l528) =>
 some (((⟨op526,s527,0,(⟨0,[],0,[]⟩:Typ),[],l528,r5⟩:Nod),ok524,b3B))
def a5t (l1:List Tok)(o6 at3 j4:Int):Nod×Bool×Int->Out
 |(r509,a1I,at511)=>.ret (.tuple [.agg (c0 r509.op r509.s r509.n r509.t.kind r509.t.name r509.t.n (.sl C9 r509.t.args) (.sl C9 r509.ts) (.sl F5 r509.l) r509.at_),.bool a1I]) (hR F7 l1 o6 at511 j4)
def a2c (n:Nat)(s1:Str):Nat->Int->Int->Option (Int)
  | 0,_,_=>none
  | m3 + 1,n501,i502 =>
      cond (ltB i502 (List.length s1:Int)) (
      (idxS s1 i502).bind fun b2 =>
      a2c n s1 m3 (w64 ((w64 (n501*10))+(w64 (IntKind.wrap .u8 (b2-48))))) (w64 (i502+1))) (
      some n501)
def a0j (n:Nat)(s1:Str):Option (Int) :=
 Option.bind (α:=Int) (
 a2c n s1 n 0 0) fun n507 =>
 some (n507)
def a8n (s1:Str):Int->Out
 | r508=>.ret (.i r508) []
def D8 (s1:Str)(l2:List Tok)(F6 at4 z8:Int):Option (Bool×Int) :=
 (Y9 9 s1 l2 F6 at4 z8).bind fun(r6,at7) =>
 some ((r6,at7))
def b0u (s1:Str)(l2:List Tok)(F6 at4 z8:Int):Bool×Int->Out
 |(U3,b8J)=>.ret (.bool U3) (hR F7 l2 F6 b8J z8)
structure p8 where
 K5:(List Tok)->Int->Int->Int->Option (Typ×Bool×Int)
 P8:(List Tok)->Int->Int->Int->Option (List Typ×Bool×Int)
 P7:(List Tok)->Int->Int->Int->Option (Typ×Bool×Int)
def a0p (n:Nat)(Φ:p8)(o6:Int)(l1:List Tok)(j4:Int):Nat->Bool->Int->Typ->Option (Bool×Int×Typ)
  | 0,_,_,_=>none
  | m18 + 1,ok576,at577,n578 =>
      Option.bind (α:=Bool×Int) (
      cond ok576 (
      (o8 [46] l1 o6 at577 j4).bind fun(r28,at29) =>
      some (r28,at29)) (
      some (false,at577))) fun(x590,at591) =>
      cond x590 (
      (D7 2 l1 o6 at591 j4).bind fun(r30,r31,at32) =>
      a0p n Φ o6 l1 j4 m18 r31 at32 (⟨8,r30,0,[n578]⟩:Typ)) (
      some (ok576,at591,n578))
def a1X (n:Nat)(Φ:p8)(l1:List Tok)(o6 at3 j4:Int):Option (Typ×Bool×Int) :=
 (D8 [97,110,121] l1 o6 at3 j4).bind fun(r5,at6) =>
 cond r5 (
 (D7 2 l1 o6 at6 j4).bind fun(r7,r8,at9) =>
 some (((⟨9,r7,0,[]⟩:Typ),r8,at9))) (
 (o8 [40] l1 o6 at6 j4).bind fun(r10,at11) =>
 cond r10 (
 a3m (α:=Int×List Typ) (
 (o8 [41] l1 o6 at11 j4).bind fun(r12,at13) =>
 cond (!r12) (
 (Φ.P8 l1 o6 at13 j4).bind fun(r14,r15,at16) =>
 Option.bind (α:=Bool×Int) (
 cond (!r15) (
 some (true,at16)) (
 (o8 [41] l1 o6 at16 j4).bind fun(r17,at18) =>
 some ((!r17),at18))) fun(x507,at508) =>
 cond x507 (
 some (.out (((⟨10,[],0,[]⟩:Typ),false,at508)))) (
 some (.brk (at508,r14)))) (
 some (.brk (at13,([]:List Typ))))) fun(b2c,c2m) =>
 (o8 [45,62] l1 o6 b2c j4).bind fun(r19,at20) =>
 cond (!r19) (
 some (((⟨10,[],0,c2m⟩:Typ),false,at20))) (
 (Φ.K5 l1 o6 at20 j4).bind fun(r21,r22,at23) =>
 (app 56 c2m ([r21]:List Typ)).bind fun l24 =>
 some (((⟨10,[],0,l24⟩:Typ),r22,at23)))) (
 (Φ.P7 l1 o6 at11 j4).bind fun(r25,r26,at27) =>
 Option.bind (α:=Bool×Int×Typ) (
 a0p n Φ o6 l1 j4 n r26 at27 r25) fun(ok595,at596,n597) =>
 some ((n597,ok595,at596))))
def a5P (l1:List Tok)(o6 at3 j4:Int):Typ×Bool×Int->Out
 |(U3,r502,b3z)=>.ret (.tuple [.agg [.i U3.kind,.str U3.name,.i U3.n,.sl C9 U3.args],.bool r502]) (hR F7 l1 o6 b3z j4)
def a0S (n:Nat)(Φ:p8)(o6:Int)(l1:List Tok)(j4:Int):Nat ->(List Typ)->Bool->Int->Option (Lr (List Typ×Int) (List Typ×Bool×Int))
  | 0,_,_,_=>none
  | m3 + 1,l501,more502,b3z =>
      cond more502 (
      (Φ.K5 l1 o6 b3z j4).bind fun(r5,r6,at7) =>
      cond (!r6) (
      some (.out ((l501,false,at7)))) (
      (app 56 l501 ([r5]:List Typ)).bind fun l8 =>
      (o8 [44] l1 o6 at7 j4).bind fun(r9,at10) =>
      a0S n Φ o6 l1 j4 m3 l8 r9 at10)) (
      some (.brk (l501,b3z)))
def a1d (n:Nat)(Φ:p8)(l1:List Tok)(o6 at3 j4:Int):Option (List Typ×Bool×Int) :=
 a3m (α:=List Typ×Int) (
 a0S n Φ o6 l1 j4 n ([]:List Typ) true at3) fun(l508,at509) =>
 some ((l508,true,at509))
def a5e (l1:List Tok)(o6 at3 j4:Int):List Typ×Bool×Int->Out
 |(a1I,b38,b4M)=>.ret (.tuple [.st 1 C9 a1I,.bool b38]) [(0,.row [.sl F7 l1,.i o6,.i b4M,.i j4]),(1,.tip (tpe 4 (List.length a1I)) (List.length a1I))]
def a1y (n:Nat)(Φ:p8)(l1:List Tok)(o6 at3 j4:Int):Option (Typ×Bool×Int) :=
 (D7 2 l1 o6 at3 j4).bind fun(r5,r6,at7) =>
 cond (!r6) (
 some (((⟨0,[],0,[]⟩:Typ),false,at7))) (
 a3m (α:=List Typ×Int) (
 (o8 [60] l1 o6 at7 j4).bind fun(r8,at9) =>
 cond r8 (
 (Φ.P8 l1 o6 at9 j4).bind fun(r10,r11,at12) =>
 Option.bind (α:=Bool×Int) (
 cond (!r11) (
 some (true,at12)) (
 (o8 [62] l1 o6 at12 j4).bind fun(r13,at14) =>
 some ((!r13),at14))) fun(x509,at510) =>
 cond x509 (
 some (.out (((⟨0,[],0,[]⟩:Typ),false,at510)))) (
 some (.brk (r10,at510)))) (
 some (.brk (([]:List Typ),at9)))) fun(l557,at558) =>
 Option.bind (α:=Int) (
 Option.bind (α:=Bool) (
 cond (eqB (List.length l557:Int) 0) (
 some (eqS r5 [73,110,116])) (
 some false)) fun x559 =>
 cond x559 (
 some 1) (
 Option.bind (α:=Bool) (
 cond (eqB (List.length l557:Int) 0) (
 some (eqS r5 [66,111,111,108])) (
 some false)) fun x560 =>
 cond x560 (
 some 2) (
 Option.bind (α:=Bool) (
 cond (eqB (List.length l557:Int) 0) (
 some (eqS r5 [84,101,120,116])) (
 some false)) fun x561 =>
 cond x561 (
 some 3) (
 Option.bind (α:=Bool) (
 cond (eqB (List.length l557:Int) 0) (
 some (eqS r5 [85,110,105,116])) (
 some false)) fun x562 =>
 cond x562 (
 some 4) (
 Option.bind (α:=Bool) (
 cond (eqB (List.length l557:Int) 1) (
 some (eqS r5 [65,114,114,97,121])) (
 some false)) fun x563 =>
 cond x563 (
 some 5) (
 Option.bind (α:=Bool) (
 cond (eqB (List.length l557:Int) 1) (
 some (eqS r5 [87,101,97,107])) (
 some false)) fun x564 =>
 cond x564 (
 some 11) (
 some 6))))))) fun c2I =>
 Option.bind (α:=Str) (
 cond (!eqB c2I 6) (
 some []) (
 some r5)) fun s566 =>
 some (((⟨c2I,s566,0,l557⟩:Typ),true,at558)))
def a5s (l1:List Tok)(o6 at3 j4:Int):Typ×Bool×Int->Out
 |(r552,r553,at554)=>.ret (.tuple [.agg [.i r552.kind,.str r552.name,.i r552.n,.sl C9 r552.args],.bool r553]) (hR F7 l1 o6 at554 j4)
def p8.fs:Nat->p8
 | 0=>⟨fun _ _ _ _=>none,fun _ _ _ _=>none,fun _ _ _ _=>none⟩
 | n+1=>⟨a1X n (p8.fs n),a1d n (p8.fs n),a1y n (p8.fs n)⟩
def K5 (n:Nat)(l1:List Tok)(o6 at3 j4:Int):Option (Typ×Bool×Int):=(p8.fs n).K5 l1 o6 at3 j4
def P8 (n:Nat)(l1:List Tok)(o6 at3 j4:Int):Option (List Typ×Bool×Int):=(p8.fs n).P8 l1 o6 at3 j4
def P7 (n:Nat)(l1:List Tok)(o6 at3 j4:Int):Option (Typ×Bool×Int):=(p8.fs n).P7 l1 o6 at3 j4
def a0C (n:Nat)(F6:Int)(l2:List Tok)(z8:Int):Nat ->(List Nod)->Bool->Int->Option (Lr (List Nod×Int) (List Nod×Bool×Int))
  | 0,_,_,_=>none
  | m4 + 1,l511,more512,b4N =>
      cond more512 (
      (F4 l2 F6 b4N z8).bind fun r8 =>
      Option.bind (α:=Int×Int) (
      (D8 [105,110,111,117,116] l2 F6 b4N z8).bind fun(r9,at10) =>
      cond r9 (
      some (at10,1)) (
      (D8 [99,111,110,115,117,109,101] l2 F6 at10 z8).bind fun(r11,at12) =>
      cond r11 (
      some (at12,2)) (
      some (at12,0)))) fun(b3A,n520) =>
      (D7 1 l2 F6 b3A z8).bind fun(r13,r14,at15) =>
      Option.bind (α:=Bool×Int) (
      cond (!r14) (
      some (true,at15)) (
      (o8 [58] l2 F6 at15 z8).bind fun(r16,at17) =>
      some ((!r16),at17))) fun(x521,at522) =>
      cond x521 (
      some (.out ((l511,false,at522)))) (
      (K5 n l2 F6 at522 z8).bind fun(r18,r19,at20) =>
      cond (!r19) (
      some (.out ((l511,false,at20)))) (
      (app 144 l511 ([(⟨10,r13,n520,r18,[],[],r8⟩:Nod)]:List Nod)).bind fun l21 =>
      (o8 [44] l2 F6 at20 z8).bind fun(r22,at23) =>
      a0C n F6 l2 z8 m4 l21 r22 at23))) (
      some (.brk (l511,b4N)))
def a1A (n:Nat)(l1:List Nod)(l2:List Tok)(F6 at4 z8:Int):Option (List Nod×Bool×Int) :=
 (o8 [41] l2 F6 at4 z8).bind fun(r6,at7) =>
 cond r6 (
 some ((l1,true,at7))) (
 a3m (α:=List Nod×Int) (
 a0C n F6 l2 z8 n l1 true at7) fun(l523,b8K) =>
 (o8 [41] l2 F6 b8K z8).bind fun(r24,at25) =>
 some ((l523,r24,at25)))
def a4E (l1:List Nod)(l2:List Tok)(F6 at4 z8:Int):List Nod×Bool×Int->Out
 |(r525,b2D,at527)=>.ret (.tuple [.st 1 F5 r525,.bool b2D]) [(0,.row [.sl F7 l2,.i F6,.i at527,.i z8]),(1,.tip (tpe 10 (List.length r525)) (List.length r525))]
structure E5 where
 K3:(List Tok)->Int->Int->Int->Option (Nod×Bool×Int)
def a0c (n:Nat)(Φ:E5)(o6:Int)(l1:List Tok)(j4:Int)(r28:Str)(r5:Int):Nat ->(List Nod)->Bool->Int->Option (Lr (List Nod×Int) (Nod×Bool×Int))
  | 0,_,_,_=>none
  | m37 + 1,l504,more505,at506 =>
      cond more505 (
      (Φ.K3 l1 o6 at506 j4).bind fun(r33,r34,at35) =>
      cond (!r34) (
      some (.out (((⟨45,r28,0,(⟨0,[],0,[]⟩:Typ),[],[],r5⟩:Nod),false,at35)))) (
      (app 144 l504 ([r33]:List Nod)).bind fun l36 =>
      (o8 [44] l1 o6 at35 j4).bind fun(r37,at38) =>
      a0c n Φ o6 l1 j4 r28 r5 m37 l36 r37 at38)) (
      some (.brk (l504,at506)))
def a0D (n:Nat)(Φ:E5)(l1:List Tok)(o6 at3 j4:Int):Option (Nod×Bool×Int) :=
 (F4 l1 o6 at3 j4).bind fun r5 =>
 (D7 1 l1 o6 at3 j4).bind fun(r6,r7,at8) =>
 cond r7 (
 cond (eqS r6 [95]) (
 some (((⟨40,[],0,(⟨0,[],0,[]⟩:Typ),[],[],r5⟩:Nod),true,at8))) (
 some (((⟨41,r6,0,(⟨0,[],0,[]⟩:Typ),[],[],r5⟩:Nod),true,at8)))) (
 (D7 3 l1 o6 at8 j4).bind fun(r9,r10,at11) =>
 cond r10 (
 (a0j n r9).bind fun r12 =>
 some (((⟨42,[],r12,(⟨0,[],0,[]⟩:Typ),[],[],r5⟩:Nod),true,at11))) (
 (o8 [45] l1 o6 at11 j4).bind fun(r13,at14) =>
 cond r13 (
 (D7 3 l1 o6 at14 j4).bind fun(r15,r16,at17) =>
 (a0j n r15).bind fun r18 =>
 some (((⟨42,[],(w64 (0-r18)),(⟨0,[],0,[]⟩:Typ),[],[],r5⟩:Nod),r16,at17))) (
 (D7 4 l1 o6 at14 j4).bind fun(r19,r20,at21) =>
 cond r20 (
 some (((⟨44,r19,0,(⟨0,[],0,[]⟩:Typ),[],[],r5⟩:Nod),true,at21))) (
 (D8 [116,114,117,101] l1 o6 at21 j4).bind fun(r22,at23) =>
 cond r22 (
 some (((⟨43,[],1,(⟨0,[],0,[]⟩:Typ),[],[],r5⟩:Nod),true,at23))) (
 (D8 [102,97,108,115,101] l1 o6 at23 j4).bind fun(r24,at25) =>
 cond r24 (
 some (((⟨43,[],0,(⟨0,[],0,[]⟩:Typ),[],[],r5⟩:Nod),true,at25))) (
 (o8 [46] l1 o6 at25 j4).bind fun(r26,at27) =>
 cond (!r26) (
 some (((⟨0,[],0,(⟨0,[],0,[]⟩:Typ),[],[],r5⟩:Nod),false,at27))) (
 (D7 1 l1 o6 at27 j4).bind fun(r28,r29,at30) =>
 cond (!r29) (
 some (((⟨0,[],0,(⟨0,[],0,[]⟩:Typ),[],[],r5⟩:Nod),false,at30))) (
 (o8 [40] l1 o6 at30 j4).bind fun(r31,at32) =>
 cond (!r31) (
 some (((⟨45,r28,0,(⟨0,[],0,[]⟩:Typ),[],[],r5⟩:Nod),true,at32))) (
 a3m (α:=List Nod×Int) (
 a0c n Φ o6 l1 j4 r28 r5 n ([]:List Nod) true at32) fun(l513,b2c) =>
 (o8 [41] l1 o6 b2c j4).bind fun(r39,at40) =>
 some (((⟨45,r28,0,(⟨0,[],0,[]⟩:Typ),[],l513,r5⟩:Nod),r39,at40)))))))))))
def a4f (l1:List Tok)(o6 at3 j4:Int):Nod×Bool×Int->Out
 |(U3,r502,b3z)=>.ret (.tuple [.agg (c0 U3.op U3.s U3.n U3.t.kind U3.t.name U3.t.n (.sl C9 U3.t.args) (.sl C9 U3.ts) (.sl F5 U3.l) U3.at_),.bool r502]) (hR F7 l1 o6 b3z j4)
def E5.fs:Nat->E5
 | 0=>⟨fun _ _ _ _=>none⟩
 | n+1=>⟨a0D n (E5.fs n)⟩
def K3 (n:Nat)(l1:List Tok)(o6 at3 j4:Int):Option (Nod×Bool×Int):=(E5.fs n).K3 l1 o6 at3 j4
def a3E (n:Nat):Nat->Nod->Option (Nod)
  | 0,_=>none
  | m1 + 1,n502 =>
      Option.bind (α:=Bool) (
      cond (eqB n502.op 55) (
      some (eqB (List.length n502.l:Int) 1)) (
      some false)) fun x504 =>
      cond x504 (
      (idx' n502.l 0).bind fun x2 =>
      a3E n m1 x2) (
      some n502)
def a5N (n:Nat)(n1:Nod):Option (Bool) :=
 Option.bind (α:=Nod) (
 a3E n n n1) fun n505 =>
 some ((eqB n505.op 54))
def a9k (n1:Nod):Bool->Out
 | r506=>.ret (.bool r506) []
structure d9 where
 E8:(List Tok)->Int->Int->Int->Option (Nod×Bool×Int×Int)
 M5:Int ->(List Tok)->Int->Int->Int->Option (Nod×Bool×Int×Int)
 O1:(List Tok)->Int->Int->Int->Option (Nod×Bool×Int×Int)
 O9:(List Tok)->Int->Int->Int->Option (Nod×Bool×Int×Int)
 U8:(List Tok)->Int->Int->Int->Option (Nod×Bool×Int×Int)
 J8:(List Nod) ->(List Tok)->Int->Int->Int->Option (List Nod×Bool×Int×Int×List Nod)
 J9:(List Tok)->Int->Int->Int->Option (Nod×Bool×Int×Int)
 O8:(List Tok)->Int->Int->Int->Option (Nod×Bool×Int×Int)
 K4:(List Tok)->Int->Int->Int->Option (List Nod×Bool×Int×Int)
 L6:(List Tok)->Int->Int->Int->Option (Nod×Bool×Int×Int)
 I5:(List Tok)->Int->Int->Int->Option (Nod×Bool×Int×Int)
 R9:(List Tok)->Int->Int->Int->Option (Nod×Bool×Int×Int)
 J7:(List Tok)->Int->Int->Int->Option (Nod×Bool×Int×Int)
 S9:Int ->(List Tok)->Int->Int->Int->Option (List Nod×Bool×Int×Int)
 Q9:(List Tok)->Int->Int->Int->Option (Nod×Bool×Int×Int)
 U9:(List Tok)->Int->Int->Int->Option (Nod×Bool×Int×Int)
def a1z (n:Nat)(Φ:d9)(l1:List Tok)(o6 at3 j4:Int):Option (Nod×Bool×Int×Int) :=
 (Φ.M5 0 l1 o6 at3 j4).bind fun(r5,r6,at7,a4X) =>
 some ((r5,r6,at7,a4X))
def a9H (l1:List Tok)(o6 at3 j4:Int):Nod×Bool×Int×Int->Out
 |(a1I,b38,b4M,b0m)=>.ret (.tuple [.agg (c0 a1I.op a1I.s a1I.n a1I.t.kind a1I.t.name a1I.t.n (.sl C9 a1I.t.args) (.sl C9 a1I.ts) (.sl F5 a1I.l) a1I.at_),.bool b38]) (hR F7 l1 o6 b4M b0m)
def a1K (n:Nat)(Φ:d9)(F6 k1:Int)(l2:List Tok):Nat->Int->Str->Int->Int->Int->Nod->Option (Int×Str×Int×Int×Nod)
  | 0,_,_,_,_,_,_=>none
  | m10 + 1,n617,op618,i619,at620,b5D,n622 =>
      (idx' ([[[124,124]],[[38,38]],[[61,61],[33,61],[60],[60,61],[62],[62,61]],[[43],[45]],[[42],[47],[37]]]:List (List Str)) k1).bind fun x14 =>
      cond (ltB i619 (List.length x14:Int)) (
      Option.bind (α:=Str) (
      (idx' ([[[124,124]],[[38,38]],[[61,61],[33,61],[60],[60,61],[62],[62,61]],[[43],[45]],[[42],[47],[37]]]:List (List Str)) k1).bind fun x15 =>
      (idx' x15 i619).bind fun x16 =>
      (D6 8 x16 l2 F6 at620 b5D).bind fun r17 =>
      cond r17 (
      (idx' ([[[124,124]],[[38,38]],[[61,61],[33,61],[60],[60,61],[62],[62,61]],[[43],[45]],[[42],[47],[37]]]:List (List Str)) k1).bind fun x18 =>
      (idx' x18 i619).bind fun x19 =>
      some x19) (
      some op618)) fun op623 =>
      a1K n Φ F6 k1 l2 m10 n617 op623 (w64 (i619+1)) at620 b5D n622) (
      some (n617,op618,at620,b5D,n622))
def U2 (n:Nat)(Φ:d9)(F6 k1:Int)(l2:List Tok):Nat->Bool->Int->Int->Int->Nod->Option (Lr (Bool×Int×Int×Nod) (Nod×Bool×Int×Int))
  | 0,_,_,_,_,_=>none
  | m6 + 1,ok602,n603,at604,b9T,n606 =>
      Option.bind (α:=Bool) (
      cond ok602 (
      cond (!eqB k1 2) (
      some true) (
      some (eqB n603 0))) (
      some false)) fun x616 =>
      cond x616 (
      b8P (α:=Bool×Int×Int×Int×Str×List Nod×Int) (
      Option.bind (α:=Int×Str×Int×Int×Nod) (
      a1K n Φ F6 k1 l2 n n603 [] 0 at604 b9T n606) fun(n630,op631,at632,b5E,n634) =>
      cond (eqS op631 []) (
      some (.out ((n634,true,at632,b5E)))) (
      (o8 op631 l2 F6 at632 b5E).bind fun(r20,at21) =>
      (Φ.M5 (w64 (k1+1)) l2 F6 at21 b5E).bind fun(r22,r23,at24,place25) =>
      some (.brk (r23,n630,at24,place25,op631,([n634,r22]:List Nod),n634.at_)))) fun(ok635,n636,at637,place638,s639,l640,at641) =>
      U2 n Φ F6 k1 l2 m6 ok635 (w64 (n636+1)) at637 place638 (⟨64,s639,0,(⟨0,[],0,[]⟩:Typ),[],l640,at641⟩:Nod)) (
      some (.brk (ok602,at604,b9T,n606)))
def a09 (n:Nat)(Φ:d9)(k1:Int)(l2:List Tok)(F6 at4 z8:Int):Option (Nod×Bool×Int×Int) :=
 (a6m).bind fun _ =>
 cond (eqB k1 (List.length ([[[124,124]],[[38,38]],[[61,61],[33,61],[60],[60,61],[62],[62,61]],[[43],[45]],[[42],[47],[37]]]:List (List Str)):Int)) (
 (Φ.O1 l2 F6 at4 z8).bind fun(r6,r7,at8,b5G) =>
 some ((r6,r7,at8,b5G))) (
 (Φ.M5 (w64 (k1+1)) l2 F6 at4 z8).bind fun(r10,r11,at12,b76) =>
 a3m (α:=Bool×Int×Int×Nod) (
 U2 n Φ F6 k1 l2 n r11 0 at12 b76 r10) fun(ok647,at648,b5F,n650) =>
 some ((n650,ok647,at648,b5F)))
def a5b (k1:Int)(l2:List Tok)(F6 at4 z8:Int):Nod×Bool×Int×Int->Out
 |(a7M,r535,at536,b5C)=>.ret (.tuple [.agg (c0 a7M.op a7M.s a7M.n a7M.t.kind a7M.t.name a7M.t.n (.sl C9 a7M.t.args) (.sl C9 a7M.ts) (.sl F5 a7M.l) a7M.at_),.bool r535]) (hR F7 l2 F6 at536 b5C)
def a1e (n:Nat)(Φ:d9)(l1:List Tok)(o6 at3 j4:Int):Option (Nod×Bool×Int×Int) :=
 (F4 l1 o6 at3 j4).bind fun r5 =>
 (o8 [45] l1 o6 at3 j4).bind fun(r6,at7) =>
 cond r6 (
 (Φ.O1 l1 o6 at7 j4).bind fun(r8,r9,at10,a3L) =>
 some (((⟨66,[],0,(⟨0,[],0,[]⟩:Typ),[],[r8],r5⟩:Nod),r9,at10,a3L))) (
 (o8 [33] l1 o6 at7 j4).bind fun(r12,at13) =>
 cond r12 (
 (Φ.O1 l1 o6 at13 j4).bind fun(r14,r15,at16,b77) =>
 some (((⟨65,[],0,(⟨0,[],0,[]⟩:Typ),[],[r14],r5⟩:Nod),r15,at16,b77))) (
 (Φ.O9 l1 o6 at13 j4).bind fun(r18,r19,at20,place21) =>
 some ((r18,r19,at20,place21))))
def a81 (l1:List Tok)(o6 at3 j4:Int):Nod×Bool×Int×Int->Out
 |(a1I,b38,b4M,b0m)=>.ret (.tuple [.agg (c0 a1I.op a1I.s a1I.n a1I.t.kind a1I.t.name a1I.t.n (.sl C9 a1I.t.args) (.sl C9 a1I.ts) (.sl F5 a1I.l) a1I.at_),.bool b38]) (hR F7 l1 o6 b4M b0m)
def Q6 (n:Nat)(Φ:d9)(o6:Int)(l1:List Tok):Nat->Bool->Int->Int->Nod->Option (Lr (Bool×Int×Int×Nod) (Nod×Bool×Int×Int))
  | 0,_,_,_,_=>none
  | m2 + 1,ok533,at534,a4b,b3g =>
      cond ok533 (
      (o8 [46] l1 o6 at534 a4b).bind fun(r9,at10) =>
      cond r9 (
      (D7 1 l1 o6 at10 a4b).bind fun(r11,r12,at13) =>
      cond (!r12) (
      some (.out ((b3g,false,at13,a4b)))) (
      (D6 8 [40] l1 o6 at13 a4b).bind fun r14 =>
      cond r14 (
      (Φ.J8 ([b3g]:List Nod) l1 o6 at13 a4b).bind fun(r15,r16,at17,b2x,gone19) =>
      Q6 n Φ o6 l1 m2 r16 at17 b2x (⟨57,r11,0,(⟨0,[],0,[]⟩:Typ),[],r15,b3g.at_⟩:Nod)) (
      Q6 n Φ o6 l1 m2 ok533 at13 a4b (⟨55,r11,0,(⟨0,[],0,[]⟩:Typ),[],[b3g],b3g.at_⟩:Nod)))) (
      (D6 8 [40] l1 o6 at10 a4b).bind fun r20 =>
      cond r20 (
      (Φ.J8 ([b3g]:List Nod) l1 o6 at10 a4b).bind fun(r21,r22,at23,place24,gone25) =>
      Q6 n Φ o6 l1 m2 r22 at23 place24 (⟨60,[],0,(⟨0,[],0,[]⟩:Typ),[],r21,b3g.at_⟩:Nod)) (
      some (.out ((b3g,true,at10,a4b)))))) (
      some (.brk (ok533,at534,a4b,b3g)))
def a0E (n:Nat)(Φ:d9)(l1:List Tok)(o6 at3 j4:Int):Option (Nod×Bool×Int×Int) :=
 (Φ.U8 l1 o6 at3 j4).bind fun(r5,r6,at7,a4X) =>
 a3m (α:=Bool×Int×Int×Nod) (
 Q6 n Φ o6 l1 n r6 at7 a4X r5) fun(b9B,b6n,a6N,n555) =>
 some ((n555,b9B,b6n,a6N))
def a4g (l1:List Tok)(o6 at3 j4:Int):Nod×Bool×Int×Int->Out
 |(b2C,r514,at515,place516)=>.ret (.tuple [.agg (c0 b2C.op b2C.s b2C.n b2C.t.kind b2C.t.name b2C.t.n (.sl C9 b2C.t.args) (.sl C9 b2C.ts) (.sl F5 b2C.l) b2C.at_),.bool r514]) (hR F7 l1 o6 at515 place516)
def a0Q (n:Nat)(Φ:d9)(o6:Int)(l1:List Tok)(r5:Int):Nat->Bool->Int->Int ->(List Nod)->Option (Lr (Int×Int×List Nod) (Nod×Bool×Int×Int))
  | 0,_,_,_,_=>none
  | m35 + 1,more541,at542,b9S,l544 =>
      cond more541 (
      (Φ.E8 l1 o6 at542 b9S).bind fun(r40,r41,at42,b8a) =>
      cond (!r41) (
      some (.out (((⟨67,[],0,(⟨0,[],0,[]⟩:Typ),[],l544,r5⟩:Nod),false,at42,b8a)))) (
      (app 144 l544 ([r40]:List Nod)).bind fun l44 =>
      (o8 [44] l1 o6 at42 b8a).bind fun(r45,at46) =>
      a0Q n Φ o6 l1 r5 m35 r45 at46 b8a l44)) (
      some (.brk (at542,b9S,l544)))
def a1x (n:Nat)(Φ:d9)(l1:List Tok)(o6 at3 j4:Int):Option (Nod×Bool×Int×Int) :=
 (F4 l1 o6 at3 j4).bind fun r5 =>
 (D7 3 l1 o6 at3 j4).bind fun(r6,r7,at8) =>
 cond r7 (
 (a0j n r6).bind fun r9 =>
 some (((⟨50,[],r9,(⟨0,[],0,[]⟩:Typ),[],[],r5⟩:Nod),true,at8,j4))) (
 (D7 4 l1 o6 at8 j4).bind fun(r10,r11,at12) =>
 cond r11 (
 some (((⟨52,r10,0,(⟨0,[],0,[]⟩:Typ),[],[],r5⟩:Nod),true,at12,j4))) (
 (L8 5 l1 o6 at12 j4).bind fun r13 =>
 cond r13 (
 (Φ.J9 l1 o6 at12 j4).bind fun(r14,r15,at16,b77) =>
 some ((r14,r15,at16,b77))) (
 (D8 [116,114,117,101] l1 o6 at12 j4).bind fun(r18,at19) =>
 cond r18 (
 some (((⟨51,[],1,(⟨0,[],0,[]⟩:Typ),[],[],r5⟩:Nod),true,at19,j4))) (
 (D8 [102,97,108,115,101] l1 o6 at19 j4).bind fun(r20,at21) =>
 cond r20 (
 some (((⟨51,[],0,(⟨0,[],0,[]⟩:Typ),[],[],r5⟩:Nod),true,at21,j4))) (
 (D7 1 l1 o6 at21 j4).bind fun(r22,r23,at24) =>
 cond r23 (
 (D6 8 [40] l1 o6 at24 j4).bind fun r25 =>
 cond r25 (
 (Φ.J8 ([]:List Nod) l1 o6 at24 j4).bind fun(r26,r27,at28,place29,gone30) =>
 some (((⟨56,r22,0,(⟨0,[],0,[]⟩:Typ),[],r26,r5⟩:Nod),r27,at28,place29))) (
 some (((⟨54,r22,0,(⟨0,[],0,[]⟩:Typ),[],[],r5⟩:Nod),true,at24,j4)))) (
 (D8 [99,111,110,115,117,109,101] l1 o6 at24 j4).bind fun(r31,at32) =>
 cond r31 (
 (D7 1 l1 o6 at32 j4).bind fun(r33,r34,at35) =>
 some (((⟨61,r33,0,(⟨0,[],0,[]⟩:Typ),[],[],r5⟩:Nod),r34,at35,j4))) (
 a3m (α:=Int) (
 (o8 [91] l1 o6 at32 j4).bind fun(r36,at37) =>
 cond r36 (
 (o8 [93] l1 o6 at37 j4).bind fun(r38,at39) =>
 cond r38 (
 some (.out (((⟨67,[],0,(⟨0,[],0,[]⟩:Typ),[],[],r5⟩:Nod),true,at39,j4)))) (
 b8P (α:=Int×Int×List Nod) (
 a0Q n Φ o6 l1 r5 n true at39 j4 ([]:List Nod)) fun(b8N,a6O,l562) =>
 (o8 [93] l1 o6 b8N a6O).bind fun(r47,at48) =>
 some (.out (((⟨67,[],0,(⟨0,[],0,[]⟩:Typ),[],l562,r5⟩:Nod),r47,at48,a6O))))) (
 some (.brk at37))) fun at501 =>
 (o8 [40] l1 o6 at501 j4).bind fun(r49,at50) =>
 cond r49 (
 (Φ.E8 l1 o6 at50 j4).bind fun(r51,r52,at53,b8c) =>
 cond r52 (
 (o8 [41] l1 o6 at53 b8c).bind fun(r55,at56) =>
 some ((r51,r55,at56,b8c))) (
 some ((r51,false,at53,b8c)))) (
 (D6 8 [123] l1 o6 at50 j4).bind fun r57 =>
 cond r57 (
 (Φ.O8 l1 o6 at50 j4).bind fun(r58,r59,at60,place61) =>
 some ((r58,r59,at60,place61))) (
 (Φ.U9 l1 o6 at50 j4).bind fun(r62,r63,at64,b8d) =>
 some ((r62,r63,at64,b8d)))))))))))
def a5r (l1:List Tok)(o6 at3 j4:Int):Nod×Bool×Int×Int->Out
 |(a7M,r535,at536,b5C)=>.ret (.tuple [.agg (c0 a7M.op a7M.s a7M.n a7M.t.kind a7M.t.name a7M.t.n (.sl C9 a7M.t.args) (.sl C9 a7M.ts) (.sl F5 a7M.l) a7M.at_),.bool r535]) (hR F7 l1 o6 at536 b5C)
def a07 (n:Nat)(Φ:d9)(F6:Int)(l2:List Tok):Nat ->(List Nod)->Bool->Int->Int->Option (Lr (List Nod×Int×Int) (List Nod×Bool×Int×Int×List Nod))
  | 0,_,_,_,_=>none
  | m6 + 1,l537,more538,b8M,a4W =>
      cond more538 (
      (F4 l2 F6 b8M a4W).bind fun r10 =>
      Option.bind (α:=Bool×Int×Int×Nod) (
      (o8 [38] l2 F6 b8M a4W).bind fun(r11,at12) =>
      cond r11 (
      (a2s n l2 F6 at12 a4W).bind fun(r13,r14,at15) =>
      some (r14,at15,a4W,(⟨62,[],0,(⟨0,[],0,[]⟩:Typ),[],[r13],r10⟩:Nod))) (
      (Φ.E8 l2 F6 at12 a4W).bind fun(r16,r17,at18,place19) =>
      some (r17,at18,place19,r16))) fun(b9B,b6n,a6N,n555) =>
      cond (!b9B) (
      some (.out ((l537,false,b6n,a6N,l537)))) (
      (app 144 l537 ([n555]:List Nod)).bind fun l20 =>
      (o8 [44] l2 F6 b6n a6N).bind fun(r21,at22) =>
      a07 n Φ F6 l2 m6 l20 r21 at22 a6N)) (
      some (.brk (l537,b8M,a4W)))
def a1w (n:Nat)(Φ:d9)(l1:List Nod)(l2:List Tok)(F6 at4 z8:Int):Option (List Nod×Bool×Int×Int×List Nod) :=
 (o8 [40] l2 F6 at4 z8).bind fun(r6,at7) =>
 cond (!r6) (
 some ((l1,false,at7,z8,l1))) (
 (o8 [41] l2 F6 at7 z8).bind fun(r8,at9) =>
 cond r8 (
 some ((l1,true,at9,z8,l1))) (
 a3m (α:=List Nod×Int×Int) (
 a07 n Φ F6 l2 n l1 true at9 z8) fun(l560,at561,b0o) =>
 (o8 [41] l2 F6 at561 b0o).bind fun(r23,at24) =>
 some ((l560,r23,at24,b0o,l560))))
def a5q (l1:List Nod)(l2:List Tok)(F6 at4 z8:Int):List Nod×Bool×Int×Int×List Nod->Out
 |(r543,r544,at545,b2y,c2C)=>.ret (.tuple [.sl F5 r543,.bool r544]) [(0,.row [.sl F7 l2,.i F6,.i at545,.i b2y]),(1,.tip (tpe 10 (List.length c2C)) (List.length c2C))]
def W9 (n:Nat)(Φ:d9)(o6:Int)(l1:List Tok)(r5:Int):Nat->Int->Int ->(List Nod)->Option (Nod×Bool×Int×Int)
  | 0,_,_,_=>none
  | m2 + 1,at521,b9R,l523 =>
      (idx' l1 at521).bind fun x6 =>
      (app 144 l523 ([(⟨52,x6.text,0,(⟨0,[],0,[]⟩:Typ),[],[],x6.at_⟩:Nod)]:List Nod)).bind fun l7 =>
      cond (eqB x6.kind 7) (
      some (((⟨53,[],0,(⟨0,[],0,[]⟩:Typ),[],l7,r5⟩:Nod),true,(w64 (at521+1)),b9R))) (
      (Φ.E8 l1 o6 (w64 (at521+1)) b9R).bind fun(r8,r9,at10,a3L) =>
      Option.bind (α:=Bool) (
      cond (!r9) (
      some true) (
      (L8 6 l1 o6 at10 a3L).bind fun r12 =>
      cond (!r12) (
      (L8 7 l1 o6 at10 a3L).bind fun r13 =>
      some (!r13)) (
      some false))) fun x520 =>
      cond x520 (
      some (((⟨53,[],0,(⟨0,[],0,[]⟩:Typ),[],l7,r5⟩:Nod),false,at10,a3L))) (
      (app 144 l7 ([r8]:List Nod)).bind fun l14 =>
      W9 n Φ o6 l1 r5 m2 at10 a3L l14))
def X6 (n:Nat)(Φ:d9)(l1:List Tok)(o6 at3 j4:Int):Option (Nod×Bool×Int×Int) :=
 (F4 l1 o6 at3 j4).bind fun r5 =>
 W9 n Φ o6 l1 r5 n at3 j4 ([]:List Nod)
def a2U (l1:List Tok)(o6 at3 j4:Int):Nod×Bool×Int×Int->Out
 |(r524,r525,at526,place527)=>.ret (.tuple [.agg (c0 r524.op r524.s r524.n r524.t.kind r524.t.name r524.t.n (.sl C9 r524.t.args) (.sl C9 r524.ts) (.sl F5 r524.l) r524.at_),.bool r525]) (hR F7 l1 o6 at526 place527)
def a0A (n:Nat)(Φ:d9)(l1:List Tok)(o6 at3 j4:Int):Option (Nod×Bool×Int×Int) :=
 (F4 l1 o6 at3 j4).bind fun r5 =>
 (o8 [123] l1 o6 at3 j4).bind fun(r6,at7) =>
 (o8 [40] l1 o6 at7 j4).bind fun(r8,at9) =>
 cond (!r8) (
 some (((⟨63,[],0,(⟨4,[],0,[]⟩:Typ),[],[],r5⟩:Nod),false,at9,j4))) (
 (a1A n ([]:List Nod) l1 o6 at9 j4).bind fun(r10,r11,at12) =>
 cond (!r11) (
 some (((⟨63,[],0,(⟨4,[],0,[]⟩:Typ),[],[],r5⟩:Nod),false,at12,j4))) (
 a3m (α:=Int×Int×Str×Int×List Typ) (
 (o8 [45,62] l1 o6 at12 j4).bind fun(r13,at14) =>
 cond r13 (
 (K5 n l1 o6 at14 j4).bind fun(r15,r16,at17) =>
 cond (!r16) (
 some (.out (((⟨63,[],0,(⟨4,[],0,[]⟩:Typ),[],[],r5⟩:Nod),false,at17,j4)))) (
 some (.brk (at17,r15.kind,r15.name,r15.n,r15.args)))) (
 some (.brk (at14,4,[],0,([]:List Typ))))) fun(at507,c2H,c2U,n510,c2l) =>
 (D8 [105,110] l1 o6 at507 j4).bind fun(r18,at19) =>
 cond (!r18) (
 some (((⟨63,[],0,(⟨c2H,c2U,n510,c2l⟩:Typ),[],[],r5⟩:Nod),false,at19,j4))) (
 (Φ.K4 l1 o6 at19 j4).bind fun(r20,r21,at22,b4w) =>
 (app 144 r10 ([(⟨20,[],0,(⟨0,[],0,[]⟩:Typ),[],r20,r5⟩:Nod)]:List Nod)).bind fun l24 =>
 some (((⟨63,[],0,(⟨c2H,c2U,n510,c2l⟩:Typ),[],l24,r5⟩:Nod),r21,at22,b4w)))))
def a4e (l1:List Tok)(o6 at3 j4:Int):Nod×Bool×Int×Int->Out
 |(r520,r521,at522,place523)=>.ret (.tuple [.agg (c0 r520.op r520.s r520.n r520.t.kind r520.t.name r520.t.n (.sl C9 r520.t.args) (.sl C9 r520.ts) (.sl F5 r520.l) r520.at_),.bool r521]) (hR F7 l1 o6 at522 place523)
def a0F (n:Nat)(Φ:d9)(o6:Int)(l1:List Tok):Nat ->(List Nod)->Int->Int->Option (Lr (List Nod×Int×Int) (List Nod×Bool×Int×Int))
  | 0,_,_,_=>none
  | m2 + 1,l517,a9i,b5A =>
      (o8 [125] l1 o6 a9i b5A).bind fun(r5,at6) =>
      cond (!r5) (
      (Φ.L6 l1 o6 at6 b5A).bind fun(r7,r8,at9,c3c) =>
      cond (!r8) (
      some (.out ((l517,false,at9,c3c)))) (
      (app 144 l517 ([r7]:List Nod)).bind fun l11 =>
      a0F n Φ o6 l1 m2 l11 at9 c3c)) (
      some (.brk (l517,at6,b5A)))
def Y6 (n:Nat)(Φ:d9)(l1:List Tok)(o6 at3 j4:Int):Option (List Nod×Bool×Int×Int) :=
 a3m (α:=List Nod×Int×Int) (
 a0F n Φ o6 l1 n ([]:List Nod) at3 j4) fun(l529,b8L,b5B) =>
 some ((l529,true,b8L,b5B))
def a3r (l1:List Tok)(o6 at3 j4:Int):List Nod×Bool×Int×Int->Out
 |(r522,r523,b8K,place525)=>.ret (.tuple [.sl F5 r522,.bool r523]) (hR F7 l1 o6 b8K place525)
def a0d (n:Nat)(Φ:d9)(l1:List Tok)(o6 at3 j4:Int):Option (Nod×Bool×Int×Int) :=
 (F4 l1 o6 at3 j4).bind fun r5 =>
 Option.bind (α:=Bool) (
 (D6 9 [108,101,116] l1 o6 at3 j4).bind fun r6 =>
 cond r6 (
 some true) (
 (D6 9 [118,97,114] l1 o6 at3 j4).bind fun r7 =>
 some r7)) fun x501 =>
 cond x501 (
 (Φ.R9 l1 o6 at3 j4).bind fun(r8,r9,at10,a3L) =>
 some ((r8,r9,at10,a3L))) (
 (D6 9 [105,102] l1 o6 at3 j4).bind fun r12 =>
 cond r12 (
 (Φ.J7 l1 o6 at3 j4).bind fun(r13,r14,at15,place16) =>
 some ((r13,r14,at15,place16))) (
 (D8 [119,104,105,108,101] l1 o6 at3 j4).bind fun(r17,at18) =>
 cond r17 (
 (Φ.E8 l1 o6 at18 j4).bind fun(r19,r20,at21,a8Q) =>
 cond (!r20) (
 some ((r19,false,at21,a8Q))) (
 (Φ.I5 l1 o6 at21 a8Q).bind fun(r23,r24,at25,b78) =>
 some (((⟨25,[],0,(⟨0,[],0,[]⟩:Typ),[],[r19,r23],r5⟩:Nod),r24,at25,b78)))) (
 (D8 [109,97,116,99,104] l1 o6 at18 j4).bind fun(r27,at28) =>
 cond r27 (
 (Φ.S9 r5 l1 o6 at28 j4).bind fun(l29,r30,at31,place32) =>
 some (((⟨26,[],0,(⟨0,[],0,[]⟩:Typ),[],l29,r5⟩:Nod),r30,at31,place32))) (
 (D8 [114,101,116,117,114,110] l1 o6 at28 j4).bind fun(r33,at34) =>
 cond r33 (
 (o8 [59] l1 o6 at34 j4).bind fun(r35,at36) =>
 cond r35 (
 some (((⟨28,[],0,(⟨0,[],0,[]⟩:Typ),[],[],r5⟩:Nod),true,at36,j4))) (
 (Φ.E8 l1 o6 at36 j4).bind fun(r37,r38,at39,b79) =>
 cond r38 (
 (o8 [59] l1 o6 at39 b79).bind fun(r41,at42) =>
 some (((⟨28,[],0,(⟨0,[],0,[]⟩:Typ),[],[r37],r5⟩:Nod),r41,at42,b79))) (
 some (((⟨28,[],0,(⟨0,[],0,[]⟩:Typ),[],[r37],r5⟩:Nod),false,at39,b79))))) (
 (D8 [116,104,114,111,119] l1 o6 at34 j4).bind fun(r43,at44) =>
 cond r43 (
 (Φ.E8 l1 o6 at44 j4).bind fun(r45,r46,at47,b8b) =>
 cond r46 (
 (o8 [59] l1 o6 at47 b8b).bind fun(r49,at50) =>
 some (((⟨29,[],0,(⟨0,[],0,[]⟩:Typ),[],[r45],r5⟩:Nod),r49,at50,b8b))) (
 some (((⟨29,[],0,(⟨0,[],0,[]⟩:Typ),[],[r45],r5⟩:Nod),false,at47,b8b)))) (
 (D8 [100,111] l1 o6 at44 j4).bind fun(r51,at52) =>
 cond r51 (
 (Φ.I5 l1 o6 at52 j4).bind fun(r53,r54,at55,b2z) =>
 Option.bind (α:=Bool×Int) (
 cond (!r54) (
 some (true,at55)) (
 (D8 [99,97,116,99,104] l1 o6 at55 b2z).bind fun(r57,at58) =>
 some ((!r57),at58))) fun(x517,a9i) =>
 cond x517 (
 some ((r53,false,a9i,b2z))) (
 (D7 1 l1 o6 a9i b2z).bind fun(r59,r60,at61) =>
 cond (!r60) (
 some ((r53,false,at61,b2z))) (
 (Φ.I5 l1 o6 at61 b2z).bind fun(r62,r63,at64,b8d) =>
 some (((⟨30,r59,0,(⟨0,[],0,[]⟩:Typ),[],[r53,r62],r5⟩:Nod),r63,at64,b8d))))) (
 (D8 [100,101,102,101,114] l1 o6 at52 j4).bind fun(r66,at67) =>
 cond r66 (
 (Φ.I5 l1 o6 at67 j4).bind fun(r68,r69,at70,place71) =>
 some (((⟨31,[],0,(⟨0,[],0,[]⟩:Typ),[],[r68],r5⟩:Nod),r69,at70,place71))) (
 (Φ.Q9 l1 o6 at67 j4).bind fun(r72,r73,at74,place75) =>
 some ((r72,r73,at74,place75))))))))))
def a3G (l1:List Tok)(o6 at3 j4:Int):Nod×Bool×Int×Int->Out
 |(b39,b2C,b2c,b5z)=>.ret (.tuple [.agg (c0 b39.op b39.s b39.n b39.t.kind b39.t.name b39.t.n (.sl C9 b39.t.args) (.sl C9 b39.ts) (.sl F5 b39.l) b39.at_),.bool b2C]) (hR F7 l1 o6 b2c b5z)
def a08 (n:Nat)(Φ:d9)(l1:List Tok)(o6 at3 j4:Int):Option (Nod×Bool×Int×Int) :=
 (F4 l1 o6 at3 j4).bind fun r5 =>
 (o8 [123] l1 o6 at3 j4).bind fun(r6,at7) =>
 cond (!r6) (
 some (((⟨20,[],0,(⟨0,[],0,[]⟩:Typ),[],[],r5⟩:Nod),false,at7,j4))) (
 (Φ.K4 l1 o6 at7 j4).bind fun(r8,r9,at10,a3L) =>
 some (((⟨20,[],0,(⟨0,[],0,[]⟩:Typ),[],r8,r5⟩:Nod),r9,at10,a3L)))
def a8U (l1:List Tok)(o6 at3 j4:Int):Nod×Bool×Int×Int->Out
 |(a1I,b38,b4M,b0m)=>.ret (.tuple [.agg (c0 a1I.op a1I.s a1I.n a1I.t.kind a1I.t.name a1I.t.n (.sl C9 a1I.t.args) (.sl C9 a1I.ts) (.sl F5 a1I.l) a1I.at_),.bool b38]) (hR F7 l1 o6 b4M b0m)
def a1a (n:Nat)(Φ:d9)(l1:List Tok)(o6 at3 j4:Int):Option (Nod×Bool×Int×Int) :=
 (F4 l1 o6 at3 j4).bind fun r5 =>
 Option.bind (α:=Int×Int) (
 (D8 [118,97,114] l1 o6 at3 j4).bind fun(r6,at7) =>
 cond r6 (
 some (at7,1)) (
 (D8 [108,101,116] l1 o6 at7 j4).bind fun(r8,at9) =>
 some (at9,0))) fun(b8L,n531) =>
 (D7 1 l1 o6 b8L j4).bind fun(r10,r11,at12) =>
 cond (!r11) (
 some (((⟨21,[],n531,(⟨0,[],0,[]⟩:Typ),[],[],r5⟩:Nod),false,at12,j4))) (
 a3m (α:=Bool×Int×Int×Str×Int×List Typ) (
 (o8 [58] l1 o6 at12 j4).bind fun(r13,at14) =>
 cond r13 (
 (K5 n l1 o6 at14 j4).bind fun(r15,r16,at17) =>
 cond (!r16) (
 some (.out (((⟨21,r10,n531,(⟨0,[],0,[]⟩:Typ),[],[],r5⟩:Nod),false,at17,j4)))) (
 some (.brk (true,at17,r15.kind,r15.name,r15.n,r15.args)))) (
 some (.brk (false,at14,0,[],0,([]:List Typ))))) fun(typed532,at533,b7T,b7Y,b3g,b7s) =>
 a3m (α:=Int×Int×List Nod) (
 (o8 [61] l1 o6 at533 j4).bind fun(r18,at19) =>
 cond r18 (
 (Φ.E8 l1 o6 at19 j4).bind fun(r20,r21,at22,b4w) =>
 cond (!r21) (
 some (.out (((⟨21,r10,n531,(⟨b7T,b7Y,b3g,b7s⟩:Typ),[],[],r5⟩:Nod),false,at22,b4w)))) (
 some (.brk (at22,b4w,([r20]:List Nod))))) (
 Option.bind (α:=Bool) (
 cond (eqB n531 0) (
 some true) (
 some (!typed532))) fun x538 =>
 cond x538 (
 some (.out (((⟨21,r10,n531,(⟨b7T,b7Y,b3g,b7s⟩:Typ),[],[],r5⟩:Nod),false,at19,j4)))) (
 some (.brk (at19,j4,([]:List Nod)))))) fun(b8M,a4W,l541) =>
 (o8 [59] l1 o6 b8M a4W).bind fun(r24,at25) =>
 some (((⟨21,r10,n531,(⟨b7T,b7Y,b3g,b7s⟩:Typ),[],l541,r5⟩:Nod),r24,at25,a4W)))
def a5c (l1:List Tok)(o6 at3 j4:Int):Nod×Bool×Int×Int->Out
 |(b2D,r527,at528,place529)=>.ret (.tuple [.agg (c0 b2D.op b2D.s b2D.n b2D.t.kind b2D.t.name b2D.t.n (.sl C9 b2D.t.args) (.sl C9 b2D.ts) (.sl F5 b2D.l) b2D.at_),.bool r527]) (hR F7 l1 o6 at528 place529)
def X9 (n:Nat)(Φ:d9)(l1:List Tok)(o6 at3 j4:Int):Option (Nod×Bool×Int×Int) :=
 (F4 l1 o6 at3 j4).bind fun r5 =>
 (D8 [105,102] l1 o6 at3 j4).bind fun(r6,at7) =>
 (Φ.E8 l1 o6 at7 j4).bind fun(r8,r9,at10,a3L) =>
 cond (!r9) (
 some (((⟨24,[],0,(⟨0,[],0,[]⟩:Typ),[],[],r5⟩:Nod),false,at10,a3L))) (
 (Φ.I5 l1 o6 at10 a3L).bind fun(r12,r13,at14,b0W) =>
 cond (!r13) (
 some (((⟨24,[],0,(⟨0,[],0,[]⟩:Typ),[],[],r5⟩:Nod),false,at14,b0W))) (
 (D8 [101,108,115,101] l1 o6 at14 b0W).bind fun(r16,at17) =>
 cond (!r16) (
 some (((⟨24,[],0,(⟨0,[],0,[]⟩:Typ),[],[r8,r12],r5⟩:Nod),true,at17,b0W))) (
 Option.bind (α:=Bool×Int×Int×Nod) (
 (D6 9 [105,102] l1 o6 at17 b0W).bind fun r18 =>
 cond r18 (
 (Φ.J7 l1 o6 at17 b0W).bind fun(r19,r20,at21,a8Q) =>
 some (r20,at21,a8Q,r19)) (
 (Φ.I5 l1 o6 at17 b0W).bind fun(r23,r24,at25,b78) =>
 some (r24,at25,b78,r23))) fun(whole513,b2c,b5z,n516) =>
 some (((⟨24,[],0,(⟨0,[],0,[]⟩:Typ),[],[r8,r12,n516],r5⟩:Nod),whole513,b2c,b5z)))))
def a3g (l1:List Tok)(o6 at3 j4:Int):Nod×Bool×Int×Int->Out
 |(r517,r518,b3A,a4V)=>.ret (.tuple [.agg (c0 r517.op r517.s r517.n r517.t.kind r517.t.name r517.t.n (.sl C9 r517.t.args) (.sl C9 r517.ts) (.sl F5 r517.l) r517.at_),.bool r518]) (hR F7 l1 o6 b3A a4V)
def a15 (n:Nat)(Φ:d9)(F6:Int)(l2:List Tok):Nat ->(List Nod)->Int->Int->Option (Lr (List Nod×Int×Int) (List Nod×Bool×Int×Int))
  | 0,_,_,_=>none
  | m6 + 1,b5c,b3A,a4V =>
      (D6 9 [99,97,115,101] l2 F6 b3A a4V).bind fun r12 =>
      cond r12 (
      (F4 l2 F6 b3A a4V).bind fun r13 =>
      (D8 [99,97,115,101] l2 F6 b3A a4V).bind fun(r14,at15) =>
      (K3 n l2 F6 at15 a4V).bind fun(r16,r17,at18) =>
      cond (!r17) (
      some (.out ((([]:List Nod),false,at18,a4V)))) (
      (Φ.I5 l2 F6 at18 a4V).bind fun(r19,r20,at21,a8Q) =>
      cond (!r20) (
      some (.out ((([]:List Nod),false,at21,a8Q)))) (
      (app 144 b5c ([(⟨27,[],0,(⟨0,[],0,[]⟩:Typ),[],[r16,r19],r13⟩:Nod)]:List Nod)).bind fun l23 =>
      a15 n Φ F6 l2 m6 l23 at21 a8Q))) (
      some (.brk (b5c,b3A,a4V)))
def a1b (n:Nat)(Φ:d9)(at1:Int)(l2:List Tok)(F6 at4 z8:Int):Option (List Nod×Bool×Int×Int) :=
 (Φ.E8 l2 F6 at4 z8).bind fun(r6,r7,at8,b5G) =>
 Option.bind (α:=Bool×Int) (
 cond (!r7) (
 some (true,at8)) (
 (o8 [123] l2 F6 at8 b5G).bind fun(r10,at11) =>
 some ((!r10),at11))) fun(x516,at517) =>
 cond x516 (
 some ((([]:List Nod),false,at517,b5G))) (
 a3m (α:=List Nod×Int×Int) (
 a15 n Φ F6 l2 n ([r6]:List Nod) at517 b5G) fun(l524,b3B,b0n) =>
 a3m (α:=List Nod×Int×Int) (
 (D6 9 [100,101,102,97,117,108,116] l2 F6 b3B b0n).bind fun r24 =>
 cond r24 (
 (F4 l2 F6 b3B b0n).bind fun r25 =>
 (D8 [100,101,102,97,117,108,116] l2 F6 b3B b0n).bind fun(r26,at27) =>
 (Φ.I5 l2 F6 at27 b0n).bind fun(r28,r29,at30,c3d) =>
 cond (!r29) (
 some (.out ((([]:List Nod),false,at30,c3d)))) (
 (app 144 l524 ([(⟨27,[],0,(⟨0,[],0,[]⟩:Typ),[],[(⟨40,[],0,(⟨0,[],0,[]⟩:Typ),[],[],r25⟩:Nod),r28],r25⟩:Nod)]:List Nod)).bind fun l32 =>
 some (.brk (l32,at30,c3d)))) (
 some (.brk (l524,b3B,b0n)))) fun(l544,at545,b2y) =>
 (o8 [125] l2 F6 at545 b2y).bind fun(r33,at34) =>
 some ((l544,r33,at34,b2y)))
def a5d (at1:Int)(l2:List Tok)(F6 at4 z8:Int):List Nod×Bool×Int×Int->Out
 |(l529,r530,at531,place532)=>.ret (.tuple [.agg [.i 26,.str [],.i 0,.i 0,.str [],.i 0,.sl C9 ([]:List Typ),.sl C9 ([]:List Typ),.sl F5 l529,.i at1],.bool r530]) (hR F7 l2 F6 at531 place532)
def a0R (n:Nat)(Φ:d9)(l1:List Tok)(o6 at3 j4:Int):Option (Nod×Bool×Int×Int) :=
 (Φ.E8 l1 o6 at3 j4).bind fun(r5,r6,at7,a4X) =>
 cond (!r6) (
 some ((r5,false,at7,a4X))) (
 (D6 8 [61] l1 o6 at7 a4X).bind fun r9 =>
 cond (!r9) (
 (o8 [59] l1 o6 at7 a4X).bind fun(r10,at11) =>
 some (((⟨23,[],0,(⟨0,[],0,[]⟩:Typ),[],[r5],r5.at_⟩:Nod),r10,at11,a4X))) (
 (a5N n r5).bind fun r12 =>
 cond (!r12) (
 some ((r5,false,at7,r5.at_))) (
 (o8 [61] l1 o6 at7 a4X).bind fun(r13,at14) =>
 (Φ.E8 l1 o6 at14 a4X).bind fun(r15,r16,at17,b2x) =>
 cond r16 (
 (o8 [59] l1 o6 at17 b2x).bind fun(r19,at20) =>
 some (((⟨22,[],0,(⟨0,[],0,[]⟩:Typ),[],[r5,r15],r5.at_⟩:Nod),r19,at20,b2x))) (
 some (((⟨22,[],0,(⟨0,[],0,[]⟩:Typ),[],[r5,r15],r5.at_⟩:Nod),false,at17,b2x))))))
def a8s (l1:List Tok)(o6 at3 j4:Int):Nod×Bool×Int×Int->Out
 |(b2B,r505,at506,place507)=>.ret (.tuple [.agg (c0 b2B.op b2B.s b2B.n b2B.t.kind b2B.t.name b2B.t.n (.sl C9 b2B.t.args) (.sl C9 b2B.ts) (.sl F5 b2B.l) b2B.at_),.bool r505]) (hR F7 l1 o6 at506 place507)
def a1c (n:Nat)(Φ:d9)(o6:Int)(l1:List Tok)(j4 r5:Int):Nat->Bool->Int->Typ->Option (Lr (Int) (Nod×Bool×Int×Int))
  | 0,_,_,_=>none
  | m3 + 1,ok517,a9i,n519 =>
      cond ok517 (
      (D6 8 [40] l1 o6 a9i j4).bind fun r9 =>
      cond r9 (
      (Φ.J8 ([]:List Nod) l1 o6 a9i j4).bind fun(r10,r11,at12,b76,gone14) =>
      some (.out (((⟨59,[],0,n519,[],r10,r5⟩:Nod),r11,at12,b76)))) (
      (o8 [46] l1 o6 a9i j4).bind fun(r15,at16) =>
      cond (!r15) (
      some (.out (((⟨0,[],0,(⟨0,[],0,[]⟩:Typ),[],[],r5⟩:Nod),false,at16,j4)))) (
      (D7 2 l1 o6 at16 j4).bind fun(r17,r18,at19) =>
      cond r18 (
      a1c n Φ o6 l1 j4 r5 m3 ok517 at19 (⟨8,r17,0,[n519]⟩:Typ)) (
      (D7 1 l1 o6 at19 j4).bind fun(r20,r21,at22) =>
      cond (!r21) (
      some (.out (((⟨0,[],0,(⟨0,[],0,[]⟩:Typ),[],[],r5⟩:Nod),false,at22,j4)))) (
      (D6 8 [40] l1 o6 at22 j4).bind fun r23 =>
      cond r23 (
      (Φ.J8 ([]:List Nod) l1 o6 at22 j4).bind fun(r24,r25,at26,place27,gone28) =>
      some (.out (((⟨58,r20,1,n519,[],r24,r5⟩:Nod),r25,at26,place27)))) (
      some (.out (((⟨58,r20,0,n519,[],[],r5⟩:Nod),true,at22,j4))))))))) (
      some (.brk a9i))
def a1B (n:Nat)(Φ:d9)(l1:List Tok)(o6 at3 j4:Int):Option (Nod×Bool×Int×Int) :=
 (F4 l1 o6 at3 j4).bind fun r5 =>
 (P7 n l1 o6 at3 j4).bind fun(r6,r7,at8) =>
 a3m (α:=Int) (
 a1c n Φ o6 l1 j4 r5 n r7 at8 r6) fun b4N =>
 some (((⟨0,[],0,(⟨0,[],0,[]⟩:Typ),[],[],r5⟩:Nod),false,b4N,j4))
def a5u (l1:List Tok)(o6 at3 j4:Int):Nod×Bool×Int×Int->Out
 |(r558,r559,b8N,a6O)=>.ret (.tuple [.agg (c0 r558.op r558.s r558.n r558.t.kind r558.t.name r558.t.n (.sl C9 r558.t.args) (.sl C9 r558.ts) (.sl F5 r558.l) r558.at_),.bool r559]) (hR F7 l1 o6 b8N a6O)
def d9.fs:Nat->d9
 | 0=>⟨fun _ _ _ _=>none,fun _ _ _ _ _=>none,fun _ _ _ _=>none,fun _ _ _ _=>none,fun _ _ _ _=>none,fun _ _ _ _ _=>none,fun _ _ _ _=>none,fun _ _ _ _=>none,fun _ _ _ _=>none,fun _ _ _ _=>none,fun _ _ _ _=>none,fun _ _ _ _=>none,fun _ _ _ _=>none,fun _ _ _ _ _=>none,fun _ _ _ _=>none,fun _ _ _ _=>none⟩
 | n+1=>⟨a1z n (d9.fs n),a09 n (d9.fs n),a1e n (d9.fs n),a0E n (d9.fs n),a1x n (d9.fs n),a1w n (d9.fs n),X6 n (d9.fs n),a0A n (d9.fs n),Y6 n (d9.fs n),a0d n (d9.fs n),a08 n (d9.fs n),a1a n (d9.fs n),X9 n (d9.fs n),a1b n (d9.fs n),a0R n (d9.fs n),a1B n (d9.fs n)⟩
def E8 (n:Nat)(l1:List Tok)(o6 at3 j4:Int):Option (Nod×Bool×Int×Int):=(d9.fs n).E8 l1 o6 at3 j4
def M5 (n:Nat)(k1:Int)(l2:List Tok)(F6 at4 z8:Int):Option (Nod×Bool×Int×Int):=(d9.fs n).M5 k1 l2 F6 at4 z8
def O1 (n:Nat)(l1:List Tok)(o6 at3 j4:Int):Option (Nod×Bool×Int×Int):=(d9.fs n).O1 l1 o6 at3 j4
def O9 (n:Nat)(l1:List Tok)(o6 at3 j4:Int):Option (Nod×Bool×Int×Int):=(d9.fs n).O9 l1 o6 at3 j4
def U8 (n:Nat)(l1:List Tok)(o6 at3 j4:Int):Option (Nod×Bool×Int×Int):=(d9.fs n).U8 l1 o6 at3 j4
def J8 (n:Nat)(l1:List Nod)(l2:List Tok)(F6 at4 z8:Int):Option (List Nod×Bool×Int×Int×List Nod):=(d9.fs n).J8 l1 l2 F6 at4 z8
def J9 (n:Nat)(l1:List Tok)(o6 at3 j4:Int):Option (Nod×Bool×Int×Int):=(d9.fs n).J9 l1 o6 at3 j4
def O8 (n:Nat)(l1:List Tok)(o6 at3 j4:Int):Option (Nod×Bool×Int×Int):=(d9.fs n).O8 l1 o6 at3 j4
def K4 (n:Nat)(l1:List Tok)(o6 at3 j4:Int):Option (List Nod×Bool×Int×Int):=(d9.fs n).K4 l1 o6 at3 j4
def L6 (n:Nat)(l1:List Tok)(o6 at3 j4:Int):Option (Nod×Bool×Int×Int):=(d9.fs n).L6 l1 o6 at3 j4
def I5 (n:Nat)(l1:List Tok)(o6 at3 j4:Int):Option (Nod×Bool×Int×Int):=(d9.fs n).I5 l1 o6 at3 j4
def R9 (n:Nat)(l1:List Tok)(o6 at3 j4:Int):Option (Nod×Bool×Int×Int):=(d9.fs n).R9 l1 o6 at3 j4
def J7 (n:Nat)(l1:List Tok)(o6 at3 j4:Int):Option (Nod×Bool×Int×Int):=(d9.fs n).J7 l1 o6 at3 j4
def S9 (n:Nat)(at1:Int)(l2:List Tok)(F6 at4 z8:Int):Option (List Nod×Bool×Int×Int):=(d9.fs n).S9 at1 l2 F6 at4 z8
def Q9 (n:Nat)(l1:List Tok)(o6 at3 j4:Int):Option (Nod×Bool×Int×Int):=(d9.fs n).Q9 l1 o6 at3 j4
def U9 (n:Nat)(l1:List Tok)(o6 at3 j4:Int):Option (Nod×Bool×Int×Int):=(d9.fs n).U9 l1 o6 at3 j4
noncomputable def a6Q (n:Nat)(a1N:Str):Option (Nod×Flt) :=
 (a9b a1N).bind fun(l2,c3,a4) =>
 cond (!eqB c3 0) (
 some (((⟨0,[],0,(⟨0,[],0,[]⟩:Typ),[],[],0⟩:Nod),(⟨c3,a4⟩:Flt)))) (
 (E8 n l2 (List.length a1N:Int) 0 (-1)).bind fun(r5,r6,at7,a4X) =>
 Option.bind (α:=Bool) (
 cond (!r6) (
 some (leB 0 a4X)) (
 some false)) fun x512 =>
 cond x512 (
 some (((⟨0,[],0,(⟨0,[],0,[]⟩:Typ),[],[],0⟩:Nod),(⟨22,a4X⟩:Flt)))) (
 Option.bind (α:=Bool) (
 cond (!r6) (
 some true) (
 some (ltB at7 (List.length l2:Int)))) fun x513 =>
 cond x513 (
 (F4 l2 (List.length a1N:Int) at7 a4X).bind fun r9 =>
 some (((⟨0,[],0,(⟨0,[],0,[]⟩:Typ),[],[],0⟩:Nod),(⟨20,r9⟩:Flt)))) (
 (a0X n r5).bind fun(r10,r11) =>
 cond (ltB 40 r11) (
 some (((⟨0,[],0,(⟨0,[],0,[]⟩:Typ),[],[],0⟩:Nod),(⟨21,0⟩:Flt)))) (
 cond (ltB 4000 r10) (
 some (((⟨0,[],0,(⟨0,[],0,[]⟩:Typ),[],[],0⟩:Nod),(⟨2,0⟩:Flt)))) (
 some ((r5,(⟨0,0⟩:Flt))))))))
def b0q (a1N:Str):Nod×Flt->Out
 |(a1I,b38)=>.ret (.tuple [.agg (c0 a1I.op a1I.s a1I.n a1I.t.kind a1I.t.name a1I.t.n (.sl C9 a1I.t.args) (.sl C9 a1I.ts) (.sl F5 a1I.l) a1I.at_),.agg [.i b38.code,.i b38.at_]]) []
def a1j (words1:List Str):Option (Str) :=
 (b3K words1 [32]).bind fun rr2 =>
 some (rr2)
def a9C (words1:List Str):Str->Out
 | U3=>.ret (.str U3) [(0,.row [.st 1 clS words1]),(1,.tip (tpe 1 (List.length words1)) (List.length words1))]
def o5 (l1 words2:List Str):Option (List Str) :=
 (app 16 words2 l1).bind fun l3 =>
 some (l3)
def b0f (l1 words2:List Str):List Str->Out
 | G5=>.ret (.tuple []) [(0,.row [.st 1 clS G5]),(1,.tip (tpe 1 (List.length G5)) (List.length G5))]
def a0H (n1:Int)(words2:List Str):Option (List Str) :=
 (b3J n1).bind fun rr3 =>
 Option.bind (α:=Str×List Str) (
 cond (ltB n1 0) (
 (o5 ([[45]]:List Str) words2).bind fun words4 =>
 (subS rr3 1 (List.length rr3:Int)).bind fun s5 =>
 some (s5,words4)) (
 some (rr3,words2))) fun(s502,U6) =>
 (o5 ([s502]:List Str) U6).bind fun words6 =>
 some (words6)
def a4B (n1:Int)(words2:List Str):List Str->Out
 | G5=>.ret (.tuple []) [(0,.row [.st 1 clS G5]),(1,.tip (tpe 1 (List.length G5)) (List.length G5))]
def a0W (n1:Int)(words2:List Str):Option (List Str) :=
 cond (eqB n1 1) (
 (o5 ([[116,114,117,101]]:List Str) words2).bind fun words3 =>
 some (words3)) (
 (o5 ([[102,97,108,115,101]]:List Str) words2).bind fun words4 =>
 some (words4))
def a8P (n1:Int)(words2:List Str):List Str->Out
 | G5=>.ret (.tuple []) [(0,.row [.st 1 clS G5]),(1,.tip (tpe 1 (List.length G5)) (List.length G5))]
def O5 (n1:Nod)(i2:Int):Option (Nod) :=
 cond (ltB i2 (List.length n1.l:Int)) (
 (idx' n1.l i2).bind fun x3 =>
 some (x3)) (
 some ((⟨0,[],0,(⟨0,[],0,[]⟩:Typ),[],[],0⟩:Nod)))
def b6e (n1:Nod)(i2:Int):Nod->Out
 | U3=>.ret (.agg (c0 U3.op U3.s U3.n U3.t.kind U3.t.name U3.t.n (.sl C9 U3.t.args) (.sl C9 U3.ts) (.sl F5 U3.l) U3.at_)) []
structure o9 where
 F9:Typ ->(List Str)->Option (List Str)
 M9:(List Typ) ->(List Str)->Option (List Str)
 M7:(List Typ) ->(List Str)->Option (List Str)
def a1V (n:Nat)(Φ:o9)(t1:Typ)(words2:List Str):Option (List Str) :=
 cond (eqB t1.kind 1) (
 (o5 ([[73,110,116]]:List Str) words2).bind fun words3 =>
 some (words3)) (
 cond (eqB t1.kind 2) (
 (o5 ([[66,111,111,108]]:List Str) words2).bind fun words4 =>
 some (words4)) (
 cond (eqB t1.kind 3) (
 (o5 ([[84,101,120,116]]:List Str) words2).bind fun words5 =>
 some (words5)) (
 cond (eqB t1.kind 4) (
 (o5 ([[85,110,105,116]]:List Str) words2).bind fun words6 =>
 some (words6)) (
 cond (eqB t1.kind 5) (
 (o5 ([[65,114,114,97,121]]:List Str) words2).bind fun words7 =>
 (Φ.M9 t1.args words7).bind fun words8 =>
 some (words8)) (
 cond (eqB t1.kind 11) (
 (o5 ([[87,101,97,107]]:List Str) words2).bind fun words9 =>
 (Φ.M9 t1.args words9).bind fun words10 =>
 some (words10)) (
 cond (eqB t1.kind 9) (
 (o5 ([[97,110,121],t1.name]:List Str) words2).bind fun words11 =>
 some (words11)) (
 cond (eqB t1.kind 8) (
 (Φ.M7 t1.args words2).bind fun words12 =>
 (o5 ([[46],t1.name]:List Str) words12).bind fun words13 =>
 some (words13)) (
 cond (eqB t1.kind 10) (
 (o5 ([[40]]:List Str) words2).bind fun words14 =>
 (a9Q t1.args 0 (max (w64 ((List.length t1.args:Int)-1)) 0)).bind fun l15 =>
 (Φ.M7 l15 words14).bind fun words16 =>
 (o5 ([[41],[45,62]]:List Str) words16).bind fun words17 =>
 (a9Q t1.args (max (w64 ((List.length t1.args:Int)-1)) 0) (List.length t1.args:Int)).bind fun l18 =>
 (Φ.M7 l18 words17).bind fun words19 =>
 some (words19)) (
 (o5 ([t1.name]:List Str) words2).bind fun words20 =>
 (Φ.M9 t1.args words20).bind fun words21 =>
 some (words21))))))))))
def b0i (t1:Typ)(words2:List Str):List Str->Out
 | G5=>.ret (.tuple []) [(0,.row [.st 1 clS G5]),(1,.tip (tpe 1 (List.length G5)) (List.length G5))]
def a1t (n:Nat)(Φ:o9)(l1:List Typ)(words2:List Str):Option (List Str) :=
 cond (ltB 0 (List.length l1:Int)) (
 (o5 ([[60]]:List Str) words2).bind fun words3 =>
 (Φ.M7 l1 words3).bind fun words4 =>
 (o5 ([[62]]:List Str) words4).bind fun words5 =>
 some (words5)) (
 some (words2))
def a9u (l1:List Typ)(words2:List Str):List Str->Out
 | G5=>.ret (.tuple []) [(0,.row [.st 1 clS G5]),(1,.tip (tpe 1 (List.length G5)) (List.length G5))]
def O0 (n:Nat)(Φ:o9)(l1:List Typ):Nat->Int ->(List Str)->Option (List Str)
  | 0,_,_=>none
  | m1 + 1,a4K,U6 =>
      cond (ltB a4K (List.length l1:Int)) (
      (idx' l1 a4K).bind fun x3 =>
      Option.bind (α:=List Str) (
      cond (ltB 0 a4K) (
      (o5 ([[44]]:List Str) U6).bind fun words4 =>
      some words4) (
      some U6)) fun a5l =>
      (Φ.F9 x3 a5l).bind fun words5 =>
      O0 n Φ l1 m1 (w64 (a4K+1)) words5) (
      some (U6))
def a4T (n:Nat)(Φ:o9)(l1:List Typ)(words2:List Str):Option (List Str) :=
 O0 n Φ l1 n 0 words2
def a5Z (l1:List Typ)(words2:List Str):List Str->Out
 | a0G=>.ret (.tuple []) [(0,.row [.st 1 clS a0G]),(1,.tip (tpe 1 (List.length a0G)) (List.length a0G))]
def o9.fs:Nat->o9
 | 0=>⟨fun _ _=>none,fun _ _=>none,fun _ _=>none⟩
 | n+1=>⟨a1V n (o9.fs n),a1t n (o9.fs n),a4T n (o9.fs n)⟩
def F9 (n:Nat)(t1:Typ)(words2:List Str):Option (List Str):=(o9.fs n).F9 t1 words2
def M9 (n:Nat)(l1:List Typ)(words2:List Str):Option (List Str):=(o9.fs n).M9 l1 words2
def M7 (n:Nat)(l1:List Typ)(words2:List Str):Option (List Str):=(o9.fs n).M7 l1 words2
def a1G (n:Nat)(p1:Nod)(words2:List Str):Option (List Str) :=
 Option.bind (α:=List Str) (
 cond (eqB p1.n 1) (
 (o5 ([[105,110,111,117,116]]:List Str) words2).bind fun words3 =>
 some words3) (
 cond (eqB p1.n 2) (
 (o5 ([[99,111,110,115,117,109,101]]:List Str) words2).bind fun words4 =>
 some words4) (
 some words2))) fun a4k =>
 (o5 ([p1.s,[58]]:List Str) a4k).bind fun words5 =>
 (F9 n p1.t words5).bind fun words6 =>
 some (words6)
def a3C (p1:Nod)(words2:List Str):List Str->Out
 | G5=>.ret (.tuple []) [(0,.row [.ptr 1 0]),(1,.row [.st 2 clS G5]),(2,.tip (tpe 1 (List.length G5)) (List.length G5))]
def a11 (n:Nat)(l1:List Nod):Nat->Int ->(List Str)->Option (List Str)
  | 0,_,_=>none
  | m1 + 1,a4K,U6 =>
      cond (ltB a4K (List.length l1:Int)) (
      (idx' l1 a4K).bind fun x3 =>
      Option.bind (α:=List Str) (
      cond (ltB 0 a4K) (
      (o5 ([[44]]:List Str) U6).bind fun words4 =>
      some words4) (
      some U6)) fun a5l =>
      (a1G n x3 a5l).bind fun words5 =>
      a11 n l1 m1 (w64 (a4K+1)) words5) (
      some (U6))
def a2X (n:Nat)(l1:List Nod)(words2:List Str):Option (List Str) :=
 a11 n l1 n 0 words2
def a4R (l1:List Nod)(words2:List Str):List Str->Out
 | a0G=>.ret (.tuple []) [(0,.row [.st 2 clS a0G]),(1,.row [.ptr 0 0]),(2,.tip (tpe 1 (List.length a0G)) (List.length a0G))]
def a2G (n:Nat)(l1:List Nod)(words2:List Str):Option (List Str) :=
 (o5 ([[40]]:List Str) words2).bind fun words3 =>
 (a2X n l1 words3).bind fun words4 =>
 (o5 ([[41]]:List Str) words4).bind fun words5 =>
 some (words5)
def a8h (l1:List Nod)(words2:List Str):List Str->Out
 | G5=>.ret (.tuple []) [(0,.row [.st 1 clS G5]),(1,.tip (tpe 1 (List.length G5)) (List.length G5))]
def a1v (n:Nat)(t1:Typ)(words2:List Str):Option (List Str) :=
 cond (!eqB t1.kind 4) (
 (o5 ([[45,62]]:List Str) words2).bind fun words3 =>
 (F9 n t1 words3).bind fun words4 =>
 some (words4)) (
 some (words2))
def a8i (t1:Typ)(words2:List Str):List Str->Out
 | G5=>.ret (.tuple []) [(0,.row [.st 1 clS G5]),(1,.tip (tpe 1 (List.length G5)) (List.length G5))]
def a4u (n1:Nod)(i2:Int):Option (List Nod) :=
 cond (ltB i2 (List.length n1.l:Int)) (
 (a9Q n1.l i2 (List.length n1.l:Int)).bind fun l3 =>
 some (l3)) (
 some (([]:List Nod)))
def b5x (n1:Nod)(i2:Int):List Nod->Out
 | U3=>.ret (.sl F5 U3) []
structure p9 where
 I8:Nod ->(List Str)->Option (List Str)
 R6:(List Nod) ->(List Str)->Option (List Str)
def Y4 (n:Nat)(Φ:p9)(n1:Nod)(words2:List Str):Option (List Str) :=
 cond (eqB n1.op 40) (
 (o5 ([[95]]:List Str) words2).bind fun words3 =>
 some (words3)) (
 cond (eqB n1.op 41) (
 (o5 ([n1.s]:List Str) words2).bind fun words4 =>
 some (words4)) (
 cond (eqB n1.op 42) (
 (a0H n1.n words2).bind fun words5 =>
 some (words5)) (
 cond (eqB n1.op 43) (
 (a0W n1.n words2).bind fun words6 =>
 some (words6)) (
 cond (eqB n1.op 44) (
 (b33 n1.s).bind fun rr7 =>
 (cat [34] rr7).bind fun s8 =>
 (cat s8 [34]).bind fun s9 =>
 (o5 ([s9]:List Str) words2).bind fun words10 =>
 some (words10)) (
 cond (eqB n1.op 45) (
 (o5 ([[46],n1.s]:List Str) words2).bind fun words11 =>
 cond (ltB 0 (List.length n1.l:Int)) (
 (o5 ([[40]]:List Str) words11).bind fun words12 =>
 (Φ.R6 n1.l words12).bind fun words13 =>
 (o5 ([[41]]:List Str) words13).bind fun words14 =>
 some (words14)) (
 some (words11))) (
 some (words2)))))))
def a7K (n1:Nod)(words2:List Str):List Str->Out
 | G5=>.ret (.tuple []) [(0,.row [.st 1 clS G5]),(1,.tip (tpe 1 (List.length G5)) (List.length G5))]
def X4 (n:Nat)(Φ:p9)(l1:List Nod):Nat->Int ->(List Str)->Option (List Str)
  | 0,_,_=>none
  | m1 + 1,a4K,U6 =>
      cond (ltB a4K (List.length l1:Int)) (
      (idx' l1 a4K).bind fun x3 =>
      Option.bind (α:=List Str) (
      cond (ltB 0 a4K) (
      (o5 ([[44]]:List Str) U6).bind fun words4 =>
      some words4) (
      some U6)) fun a5l =>
      (Φ.I8 x3 a5l).bind fun words5 =>
      X4 n Φ l1 m1 (w64 (a4K+1)) words5) (
      some (U6))
def a05 (n:Nat)(Φ:p9)(l1:List Nod)(words2:List Str):Option (List Str) :=
 X4 n Φ l1 n 0 words2
def a4S (l1:List Nod)(words2:List Str):List Str->Out
 | a0G=>.ret (.tuple []) [(0,.row [.st 1 clS a0G]),(1,.tip (tpe 1 (List.length a0G)) (List.length a0G))]
def p9.fs:Nat->p9
 | 0=>⟨fun _ _=>none,fun _ _=>none⟩
 | n+1=>⟨Y4 n (p9.fs n),a05 n (p9.fs n)⟩
def I8 (n:Nat)(n1:Nod)(words2:List Str):Option (List Str):=(p9.fs n).I8 n1 words2
def R6 (n:Nat)(l1:List Nod)(words2:List Str):Option (List Str):=(p9.fs n).R6 l1 words2
def b0e (n:Nat)(ops2:List Int)(x3:Nod):Nat ->(List Nod)->Int->Int->Option (List Nod×Int)
  | 0,_,_,_=>none
  | m6 + 1,l506,x507,x508 =>
      cond (ltB x508 (List.length ops2:Int)) (
      Option.bind (α:=List Nod) (
      (idx' ops2 x508).bind fun x4 =>
      cond (eqB x3.op x4) (
      (app 144 l506 ([x3]:List Nod)).bind fun l5 =>
      some l5) (
      some l506)) fun b3e =>
      b0e n ops2 x3 m6 b3e x507 (w64 (x508+1))) (
      some (l506,x507))
def a7s (n:Nat)(n1:Nod)(ops2:List Int):Nat ->(List Nod)->Int->Option (List Nod)
  | 0,_,_=>none
  | m3 + 1,l515,x516 =>
      cond (ltB x516 (List.length n1.l:Int)) (
      Option.bind (α:=List Nod×Int) (
      (idx' n1.l x516).bind fun x3 =>
      b0e n ops2 x3 n l515 x516 0) fun(l513,x514) =>
      a7s n n1 ops2 m3 l513 (w64 (x514+1))) (
      some l515)
def a5M (n:Nat)(n1:Nod)(ops2:List Int):Option (List Nod) :=
 Option.bind (α:=List Nod) (
 a7s n n1 ops2 n ([]:List Nod) 0) fun l525 =>
 some (l525)
def b2v (n1:Nod)(ops2:List Int):List Nod->Out
 | b2D=>.ret (.sl F5 b2D) []
structure j3 where
 w9:Nod ->(List Str)->Option (List Str)
 Q8:Nod ->(List Str)->Option (List Str)
 O7:Nod ->(List Str)->Option (List Str)
 G8:Nod ->(List Str)->Option (List Str)
 I4:Nod ->(List Str)->Option (List Str)
 V9:(List Nod) ->(List Str)->Option (List Str)
 X3:Nod ->(List Str)->Option (List Str)
 J6:Nod ->(List Str)->Option (List Str)
 M4:(List Nod) ->(List Str)->Option (List Str)
def Q7 (n:Nat)(Φ:j3)(n1:Nod)(words2:List Str):Option (List Str) :=
 cond (eqB n1.op 50) (
 (a0H n1.n words2).bind fun words3 =>
 some (words3)) (
 cond (eqB n1.op 51) (
 (a0W n1.n words2).bind fun words4 =>
 some (words4)) (
 cond (eqB n1.op 52) (
 (b33 n1.s).bind fun rr5 =>
 (cat [34] rr5).bind fun s6 =>
 (cat s6 [34]).bind fun s7 =>
 (o5 ([s7]:List Str) words2).bind fun words8 =>
 some (words8)) (
 cond (eqB n1.op 53) (
 (Φ.Q8 n1 words2).bind fun words9 =>
 some (words9)) (
 cond (eqB n1.op 54) (
 (o5 ([n1.s]:List Str) words2).bind fun words10 =>
 some (words10)) (
 cond (eqB n1.op 61) (
 (o5 ([[99,111,110,115,117,109,101],n1.s]:List Str) words2).bind fun words11 =>
 some (words11)) (
 cond (eqB n1.op 62) (
 (o5 ([[38]]:List Str) words2).bind fun words12 =>
 (O5 n1 0).bind fun r13 =>
 (Φ.w9 r13 words12).bind fun words14 =>
 some (words14)) (
 cond (eqB n1.op 63) (
 (Φ.O7 n1 words2).bind fun words15 =>
 some (words15)) (
 cond (eqB n1.op 64) (
 (o5 ([[40]]:List Str) words2).bind fun words16 =>
 (O5 n1 0).bind fun r17 =>
 (Φ.w9 r17 words16).bind fun words18 =>
 (o5 ([n1.s]:List Str) words18).bind fun words19 =>
 (O5 n1 1).bind fun r20 =>
 (Φ.w9 r20 words19).bind fun words21 =>
 (o5 ([[41]]:List Str) words21).bind fun words22 =>
 some (words22)) (
 cond (eqB n1.op 65) (
 (o5 ([[33]]:List Str) words2).bind fun words23 =>
 (O5 n1 0).bind fun r24 =>
 (Φ.w9 r24 words23).bind fun words25 =>
 some (words25)) (
 cond (eqB n1.op 66) (
 (o5 ([[45]]:List Str) words2).bind fun words26 =>
 (O5 n1 0).bind fun r27 =>
 (Φ.w9 r27 words26).bind fun words28 =>
 some (words28)) (
 cond (eqB n1.op 67) (
 (o5 ([[91]]:List Str) words2).bind fun words29 =>
 (Φ.V9 n1.l words29).bind fun words30 =>
 (o5 ([[93]]:List Str) words30).bind fun words31 =>
 some (words31)) (
 (Φ.X3 n1 words2).bind fun words32 =>
 some (words32)))))))))))))
def a9y (n1:Nod)(words2:List Str):List Str->Out
 | G5=>.ret (.tuple []) [(0,.row [.st 1 clS G5]),(1,.tip (tpe 1 (List.length G5)) (List.length G5))]
def a1F (n:Nat)(Φ:j3)(n1:Nod):Nat->Int ->(List Str)->Option (List Str)
  | 0,_,_=>none
  | m2 + 1,a4K,U6 =>
      cond (ltB a4K (List.length n1.l:Int)) (
      Option.bind (α:=List Str) (
      (idx' n1.l a4K).bind fun x3 =>
      gdO (!eqB 2 0) <|
      cond (eqB (Int.tmod a4K 2) 1) (
      (Φ.w9 x3 U6).bind fun words4 =>
      some words4) (
      cond (eqB a4K 0) (
      (b33 x3.s).bind fun rr5 =>
      (cat [34] rr5).bind fun s6 =>
      (cat s6 [92,40]).bind fun s7 =>
      (o5 ([s7]:List Str) U6).bind fun words8 =>
      some words8) (
      cond (eqB a4K (w64 ((List.length n1.l:Int)-1))) (
      (b33 x3.s).bind fun rr9 =>
      (cat [41] rr9).bind fun s10 =>
      (cat s10 [34]).bind fun s11 =>
      (o5 ([s11]:List Str) U6).bind fun words12 =>
      some words12) (
      (b33 x3.s).bind fun rr13 =>
      (cat [41] rr13).bind fun s14 =>
      (cat s14 [92,40]).bind fun s15 =>
      (o5 ([s15]:List Str) U6).bind fun words16 =>
      some words16)))) fun a5l =>
      a1F n Φ n1 m2 (w64 (a4K+1)) a5l) (
      some (U6))
def a0O (n:Nat)(Φ:j3)(n1:Nod)(words2:List Str):Option (List Str) :=
 a1F n Φ n1 n 0 words2
def a4A (n1:Nod)(words2:List Str):List Str->Out
 | a0G=>.ret (.tuple []) [(0,.row [.st 1 clS a0G]),(1,.tip (tpe 1 (List.length a0G)) (List.length a0G))]
def a1h (n:Nat)(Φ:j3)(x9:Nod):Nat->Int->Int ->(List Str)->Option (Int×List Str)
  | 0,_,_,_=>none
  | m9 + 1,x519,x520,c0q =>
      cond (ltB x520 (List.length x9.l:Int)) (
      (idx' x9.l x520).bind fun x10 =>
      (Φ.G8 x10 c0q).bind fun words11 =>
      a1h n Φ x9 m9 x519 (w64 (x520+1)) words11) (
      some (x519,c0q))
def N7 (n:Nat)(Φ:j3)(r8:List Nod):Nat->Int ->(List Str)->Option (List Str)
  | 0,_,_=>none
  | m6 + 1,x514,b0B =>
      cond (ltB x514 (List.length r8:Int)) (
      Option.bind (α:=Int×List Str) (
      (idx' r8 x514).bind fun x9 =>
      a1h n Φ x9 n x514 0 b0B) fun(x525,words526) =>
      N7 n Φ r8 m6 (w64 (x525+1)) words526) (
      some b0B)
def a0y (n:Nat)(Φ:j3)(n1:Nod)(words2:List Str):Option (List Str) :=
 (o5 ([[123]]:List Str) words2).bind fun words3 =>
 (a5M n n1 ([10]:List Int)).bind fun r4 =>
 (a2G n r4 words3).bind fun words5 =>
 (a1v n n1.t words5).bind fun words6 =>
 (o5 ([[105,110]]:List Str) words6).bind fun words7 =>
 Option.bind (α:=List Str) (
 (a5M n n1 ([20]:List Int)).bind fun r8 =>
 N7 n Φ r8 n 0 words7) fun words529 =>
 (o5 ([[125]]:List Str) words529).bind fun words12 =>
 some (words12)
def a4a (n1:Nod)(words2:List Str):List Str->Out
 | a4k=>.ret (.tuple []) [(0,.row [.st 1 clS a4k]),(1,.tip (tpe 1 (List.length a4k)) (List.length a4k))]
def a0z (n:Nat)(Φ:j3)(r41:List Nod):Nat->Int ->(List Str)->Option (List Str)
  | 0,_,_=>none
  | m40 + 1,x514,b0B =>
      cond (ltB x514 (List.length r41:Int)) (
      (idx' r41 x514).bind fun x42 =>
      (o5 ([[99,97,115,101]]:List Str) b0B).bind fun words43 =>
      (O5 x42 0).bind fun r44 =>
      (I8 n r44 words43).bind fun words45 =>
      (O5 x42 1).bind fun r46 =>
      (Φ.I4 r46 words45).bind fun words47 =>
      a0z n Φ r41 m40 (w64 (x514+1)) words47) (
      some b0B)
def G6 (n:Nat)(Φ:j3)(n1:Nod)(words2:List Str):Option (List Str) :=
 cond (eqB n1.op 21) (
 Option.bind (α:=List Str) (
 cond (eqB n1.n 1) (
 (o5 ([[118,97,114]]:List Str) words2).bind fun words3 =>
 some words3) (
 (o5 ([[108,101,116]]:List Str) words2).bind fun words4 =>
 some words4)) fun words507 =>
 (o5 ([n1.s]:List Str) words507).bind fun words5 =>
 Option.bind (α:=List Str) (
 cond (!eqB n1.t.kind 0) (
 (o5 ([[58]]:List Str) words5).bind fun words6 =>
 (F9 n n1.t words6).bind fun words7 =>
 some words7) (
 some words5)) fun c0p =>
 Option.bind (α:=List Str) (
 cond (ltB 0 (List.length n1.l:Int)) (
 (o5 ([[61]]:List Str) c0p).bind fun words8 =>
 (idx' n1.l 0).bind fun x9 =>
 (Φ.w9 x9 words8).bind fun words10 =>
 some words10) (
 some c0p)) fun a4k =>
 (o5 ([[59]]:List Str) a4k).bind fun words11 =>
 some (words11)) (
 cond (eqB n1.op 22) (
 (O5 n1 0).bind fun r12 =>
 (Φ.w9 r12 words2).bind fun words13 =>
 (o5 ([[61]]:List Str) words13).bind fun words14 =>
 (O5 n1 1).bind fun r15 =>
 (Φ.w9 r15 words14).bind fun words16 =>
 (o5 ([[59]]:List Str) words16).bind fun words17 =>
 some (words17)) (
 cond (eqB n1.op 23) (
 (O5 n1 0).bind fun r18 =>
 (Φ.w9 r18 words2).bind fun words19 =>
 (o5 ([[59]]:List Str) words19).bind fun words20 =>
 some (words20)) (
 cond (eqB n1.op 24) (
 (o5 ([[105,102]]:List Str) words2).bind fun words21 =>
 (O5 n1 0).bind fun r22 =>
 (Φ.w9 r22 words21).bind fun words23 =>
 (O5 n1 1).bind fun r24 =>
 (Φ.I4 r24 words23).bind fun words25 =>
 cond (ltB 2 (List.length n1.l:Int)) (
 (o5 ([[101,108,115,101]]:List Str) words25).bind fun words26 =>
 (idx' n1.l 2).bind fun x27 =>
 cond (eqB x27.op 24) (
 (idx' n1.l 2).bind fun x28 =>
 (Φ.G8 x28 words26).bind fun words29 =>
 some (words29)) (
 (idx' n1.l 2).bind fun x30 =>
 (Φ.I4 x30 words26).bind fun words31 =>
 some (words31))) (
 some (words25))) (
 cond (eqB n1.op 25) (
 (o5 ([[119,104,105,108,101]]:List Str) words2).bind fun words32 =>
 (O5 n1 0).bind fun r33 =>
 (Φ.w9 r33 words32).bind fun words34 =>
 (O5 n1 1).bind fun r35 =>
 (Φ.I4 r35 words34).bind fun words36 =>
 some (words36)) (
 cond (eqB n1.op 26) (
 (o5 ([[109,97,116,99,104]]:List Str) words2).bind fun words37 =>
 (O5 n1 0).bind fun r38 =>
 (Φ.w9 r38 words37).bind fun words39 =>
 (o5 ([[123]]:List Str) words39).bind fun words40 =>
 Option.bind (α:=List Str) (
 (a4u n1 1).bind fun r41 =>
 a0z n Φ r41 n 0 words40) fun words525 =>
 (o5 ([[125]]:List Str) words525).bind fun words48 =>
 some (words48)) (
 cond (eqB n1.op 28) (
 (o5 ([[114,101,116,117,114,110]]:List Str) words2).bind fun words49 =>
 Option.bind (α:=List Str) (
 cond (ltB 0 (List.length n1.l:Int)) (
 (idx' n1.l 0).bind fun x50 =>
 (Φ.w9 x50 words49).bind fun words51 =>
 some words51) (
 some words49)) fun words516 =>
 (o5 ([[59]]:List Str) words516).bind fun words52 =>
 some (words52)) (
 cond (eqB n1.op 29) (
 (o5 ([[116,104,114,111,119]]:List Str) words2).bind fun words53 =>
 (O5 n1 0).bind fun r54 =>
 (Φ.w9 r54 words53).bind fun words55 =>
 (o5 ([[59]]:List Str) words55).bind fun words56 =>
 some (words56)) (
 cond (eqB n1.op 30) (
 (o5 ([[100,111]]:List Str) words2).bind fun words57 =>
 (O5 n1 0).bind fun r58 =>
 (Φ.I4 r58 words57).bind fun words59 =>
 (o5 ([[99,97,116,99,104],n1.s]:List Str) words59).bind fun words60 =>
 (O5 n1 1).bind fun r61 =>
 (Φ.I4 r61 words60).bind fun words62 =>
 some (words62)) (
 cond (eqB n1.op 31) (
 (o5 ([[100,101,102,101,114]]:List Str) words2).bind fun words63 =>
 (O5 n1 0).bind fun r64 =>
 (Φ.I4 r64 words63).bind fun words65 =>
 some (words65)) (
 some (words2)))))))))))
def a3D (n1:Nod)(words2:List Str):List Str->Out
 | G5=>.ret (.tuple []) [(0,.row [.st 1 clS G5]),(1,.tip (tpe 1 (List.length G5)) (List.length G5))]
def a13 (n:Nat)(Φ:j3)(n1:Nod):Nat->Int ->(List Str)->Option (List Str)
  | 0,_,_=>none
  | m3 + 1,x501,a4k =>
      cond (ltB x501 (List.length n1.l:Int)) (
      (idx' n1.l x501).bind fun x4 =>
      (Φ.G8 x4 a4k).bind fun words5 =>
      a13 n Φ n1 m3 (w64 (x501+1)) words5) (
      some a4k)
def a06 (n:Nat)(Φ:j3)(n1:Nod)(words2:List Str):Option (List Str) :=
 (o5 ([[123]]:List Str) words2).bind fun words3 =>
 Option.bind (α:=List Str) (
 a13 n Φ n1 n 0 words3) fun words508 =>
 (o5 ([[125]]:List Str) words508).bind fun words6 =>
 some (words6)
def a4U (n1:Nod)(words2:List Str):List Str->Out
 | U6=>.ret (.tuple []) [(0,.row [.st 1 clS U6]),(1,.tip (tpe 1 (List.length U6)) (List.length U6))]
def a0V (n:Nat)(Φ:j3)(l1:List Nod):Nat->Int ->(List Str)->Option (List Str)
  | 0,_,_=>none
  | m1 + 1,a4K,U6 =>
      cond (ltB a4K (List.length l1:Int)) (
      (idx' l1 a4K).bind fun x3 =>
      Option.bind (α:=List Str) (
      cond (ltB 0 a4K) (
      (o5 ([[44]]:List Str) U6).bind fun words4 =>
      some words4) (
      some U6)) fun a5l =>
      (Φ.w9 x3 a5l).bind fun words5 =>
      a0V n Φ l1 m1 (w64 (a4K+1)) words5) (
      some (U6))
def a2n (n:Nat)(Φ:j3)(l1:List Nod)(words2:List Str):Option (List Str) :=
 a0V n Φ l1 n 0 words2
def a5Y (l1:List Nod)(words2:List Str):List Str->Out
 | a0G=>.ret (.tuple []) [(0,.row [.st 1 clS a0G]),(1,.tip (tpe 1 (List.length a0G)) (List.length a0G))]
def a1W (n:Nat)(Φ:j3)(n1:Nod)(words2:List Str):Option (List Str) :=
 cond (eqB n1.op 55) (
 (O5 n1 0).bind fun r3 =>
 (Φ.J6 r3 words2).bind fun words4 =>
 (o5 ([[46],n1.s]:List Str) words4).bind fun words5 =>
 some (words5)) (
 cond (eqB n1.op 56) (
 (o5 ([n1.s]:List Str) words2).bind fun words6 =>
 (Φ.M4 n1.l words6).bind fun words7 =>
 some (words7)) (
 cond (eqB n1.op 57) (
 (O5 n1 0).bind fun r8 =>
 (Φ.J6 r8 words2).bind fun words9 =>
 (o5 ([[46],n1.s]:List Str) words9).bind fun words10 =>
 (a4u n1 1).bind fun r11 =>
 (Φ.M4 r11 words10).bind fun words12 =>
 some (words12)) (
 cond (eqB n1.op 58) (
 (F9 n n1.t words2).bind fun words13 =>
 (o5 ([[46],n1.s]:List Str) words13).bind fun words14 =>
 cond (eqB n1.n 1) (
 (Φ.M4 n1.l words14).bind fun words15 =>
 some (words15)) (
 some (words14))) (
 cond (eqB n1.op 59) (
 (F9 n n1.t words2).bind fun words16 =>
 (Φ.M4 n1.l words16).bind fun words17 =>
 some (words17)) (
 cond (eqB n1.op 60) (
 (o5 ([[40]]:List Str) words2).bind fun words18 =>
 (O5 n1 0).bind fun r19 =>
 (Φ.w9 r19 words18).bind fun words20 =>
 (o5 ([[41]]:List Str) words20).bind fun words21 =>
 (a4u n1 1).bind fun r22 =>
 (Φ.M4 r22 words21).bind fun words23 =>
 some (words23)) (
 some (words2)))))))
def b0k (n1:Nod)(words2:List Str):List Str->Out
 | G5=>.ret (.tuple []) [(0,.row [.st 1 clS G5]),(1,.tip (tpe 1 (List.length G5)) (List.length G5))]
def a0m (n:Nat)(Φ:j3)(n1:Nod)(words2:List Str):Option (List Str) :=
 Option.bind (α:=Bool) (
 cond (eqB n1.op 61) (
 some (eqB n1.op 61)) (
 cond (eqB n1.op 63) (
 some (eqB n1.op 63)) (
 cond (eqB n1.op 66) (
 some (eqB n1.op 66)) (
 some (eqB n1.op 65))))) fun a4K =>
 cond a4K (
 (o5 ([[40]]:List Str) words2).bind fun words3 =>
 (Φ.w9 n1 words3).bind fun words4 =>
 (o5 ([[41]]:List Str) words4).bind fun words5 =>
 some (words5)) (
 (Φ.w9 n1 words2).bind fun words6 =>
 some (words6))
def a3U (n1:Nod)(words2:List Str):List Str->Out
 | G5=>.ret (.tuple []) [(0,.row [.st 1 clS G5]),(1,.tip (tpe 1 (List.length G5)) (List.length G5))]
def a1u (n:Nat)(Φ:j3)(l1:List Nod)(words2:List Str):Option (List Str) :=
 (o5 ([[40]]:List Str) words2).bind fun words3 =>
 (Φ.V9 l1 words3).bind fun words4 =>
 (o5 ([[41]]:List Str) words4).bind fun words5 =>
 some (words5)
def a9w (l1:List Nod)(words2:List Str):List Str->Out
 | G5=>.ret (.tuple []) [(0,.row [.st 1 clS G5]),(1,.tip (tpe 1 (List.length G5)) (List.length G5))]
def j3.fs:Nat->j3
 | 0=>⟨fun _ _=>none,fun _ _=>none,fun _ _=>none,fun _ _=>none,fun _ _=>none,fun _ _=>none,fun _ _=>none,fun _ _=>none,fun _ _=>none⟩
 | n+1=>⟨Q7 n (j3.fs n),a0O n (j3.fs n),a0y n (j3.fs n),G6 n (j3.fs n),a06 n (j3.fs n),a2n n (j3.fs n),a1W n (j3.fs n),a0m n (j3.fs n),a1u n (j3.fs n)⟩
def w9 (n:Nat)(n1:Nod)(words2:List Str):Option (List Str):=(j3.fs n).w9 n1 words2
def Q8 (n:Nat)(n1:Nod)(words2:List Str):Option (List Str):=(j3.fs n).Q8 n1 words2
def O7 (n:Nat)(n1:Nod)(words2:List Str):Option (List Str):=(j3.fs n).O7 n1 words2
def G8 (n:Nat)(n1:Nod)(words2:List Str):Option (List Str):=(j3.fs n).G8 n1 words2
def I4 (n:Nat)(n1:Nod)(words2:List Str):Option (List Str):=(j3.fs n).I4 n1 words2
def V9 (n:Nat)(l1:List Nod)(words2:List Str):Option (List Str):=(j3.fs n).V9 l1 words2
def X3 (n:Nat)(n1:Nod)(words2:List Str):Option (List Str):=(j3.fs n).X3 n1 words2
def J6 (n:Nat)(n1:Nod)(words2:List Str):Option (List Str):=(j3.fs n).J6 n1 words2
def M4 (n:Nat)(l1:List Nod)(words2:List Str):Option (List Str):=(j3.fs n).M4 l1 words2
def a1o (n:Nat)(n1:Nod):Option (Str) :=
 (w9 n n1 ([]:List Str)).bind fun words2 =>
 (a1j words2).bind fun r3 =>
 some (r3)
def b08 (n1:Nod):Str->Out
 | U3=>.ret (.str U3) []
structure H8 where
 L9:(List Str)->Typ->Option (List Str)
def a3h (n:Nat)(Φ:H8)(t2:Typ):Nat ->(List Str)->Int->Option (List Str)
  | 0,_,_=>none
  | m15 + 1,l502,b35 =>
      cond (ltB b35 (List.length t2.args:Int)) (
      (idx' t2.args b35).bind fun x8 =>
      (Φ.L9 l502 x8).bind fun r9 =>
      a3h n Φ t2 m15 r9 (w64 (b35+1))) (
      some l502)
def a2d (n:Nat)(Φ:H8)(t2:Typ):Nat ->(List Str)->Int->Option (List Str)
  | 0,_,_=>none
  | m22 + 1,l505,i506 =>
      cond (ltB (w64 (i506+1)) (List.length t2.args:Int)) (
      Option.bind (α:=List Str) (
      cond (ltB 0 i506) (
      (app 16 l505 ([[44]]:List Str)).bind fun l12 =>
      some l12) (
      some l505)) fun l515 =>
      (idx' t2.args i506).bind fun x13 =>
      (Φ.L9 l515 x13).bind fun r14 =>
      a2d n Φ t2 m22 r14 (w64 (i506+1))) (
      some l505)
def a3i (n:Nat)(Φ:H8)(t2:Typ):Nat ->(List Str)->Int->Option (List Str)
  | 0,_,_=>none
  | m38 + 1,l532,b2i =>
      cond (ltB b2i (List.length t2.args:Int)) (
      Option.bind (α:=List Str) (
      cond (ltB 0 b2i) (
      (app 16 l532 ([[44]]:List Str)).bind fun l22 =>
      some l22) (
      some l532)) fun l547 =>
      (idx' t2.args b2i).bind fun x23 =>
      (Φ.L9 l547 x23).bind fun r24 =>
      a3i n Φ t2 m38 r24 (w64 (b2i+1))) (
      some l532)
def a4h (n:Nat)(Φ:H8)(l1:List Str)(t2:Typ):Option (List Str) :=
 a3m (α:=List Str) (
 cond (eqB t2.kind 1) (
 (app 16 l1 ([[73,110,116]]:List Str)).bind fun l3 =>
 some (.out (l3))) (
 cond (eqB t2.kind 2) (
 (app 16 l1 ([[66,111,111,108]]:List Str)).bind fun l4 =>
 some (.out (l4))) (
 cond (eqB t2.kind 3) (
 (app 16 l1 ([[84,101,120,116]]:List Str)).bind fun l5 =>
 some (.out (l5))) (
 cond (eqB t2.kind 4) (
 (app 16 l1 ([[85,110,105,116]]:List Str)).bind fun l6 =>
 some (.out (l6))) (
 cond (eqB t2.kind 9) (
 (app 16 l1 ([[97,110,121],t2.name]:List Str)).bind fun l7 =>
 some (.out (l7))) (
 cond (eqB t2.kind 8) (
 Option.bind (α:=List Str) (
 a3h n Φ t2 n l1 0) fun l512 =>
 (app 16 l512 ([[46],t2.name]:List Str)).bind fun l10 =>
 some (.out (l10))) (
 cond (eqB t2.kind 10) (
 (app 16 l1 ([[40]]:List Str)).bind fun l11 =>
 Option.bind (α:=List Str) (
 a2d n Φ t2 n l11 0) fun b5c =>
 (app 16 b5c ([[41],[45,62]]:List Str)).bind fun l15 =>
 Option.bind (α:=List Str) (
 cond (ltB 0 (List.length t2.args:Int)) (
 (idx' t2.args (w64 ((List.length t2.args:Int)-1))).bind fun x16 =>
 (Φ.L9 l15 x16).bind fun r17 =>
 some r17) (
 some l15)) fun l519 =>
 some (.out (l519))) (
 cond (eqB t2.kind 5) (
 (app 16 l1 ([[65,114,114,97,121]]:List Str)).bind fun l18 =>
 some (.brk l18)) (
 cond (eqB t2.kind 11) (
 (app 16 l1 ([[87,101,97,107]]:List Str)).bind fun l19 =>
 some (.brk l19)) (
 (app 16 l1 ([t2.name]:List Str)).bind fun l20 =>
 some (.brk l20))))))))))) fun l520 =>
 Option.bind (α:=List Str) (
 cond (ltB 0 (List.length t2.args:Int)) (
 (app 16 l520 ([[60]]:List Str)).bind fun l21 =>
 Option.bind (α:=List Str) (
 a3i n Φ t2 n l21 0) fun l550 =>
 (app 16 l550 ([[62]]:List Str)).bind fun l25 =>
 some l25) (
 some l520)) fun l534 =>
 some (l534)
def a9n (l1:List Str)(t2:Typ):List Str->Out
 | U3=>.ret (.st 0 clS U3) [(0,.tip (tpe 1 (List.length U3)) (List.length U3))]
def H8.fs:Nat->H8
 | 0=>⟨fun _ _=>none⟩
 | n+1=>⟨a4h n (H8.fs n)⟩
def L9 (n:Nat)(l1:List Str)(t2:Typ):Option (List Str):=(H8.fs n).L9 l1 t2
def a4F (n1:Int):Option (Str) :=
 cond (eqB n1 1) (
 some ([116,114,117,101])) (
 some ([102,97,108,115,101]))
def b4d (n1:Int):Str->Out
 | U3=>.ret (.str U3) []
def b0t (n:Nat)(n1:Nod)(ops2:List Int):Nat ->(List Nod)->Int->Int->Option (List Nod×Int)
  | 0,_,_,_=>none
  | m6 + 1,l507,i508,k509 =>
      cond (ltB k509 (List.length ops2:Int)) (
      (idx' n1.l i508).bind fun x3 =>
      (idx' ops2 k509).bind fun x4 =>
      cond (eqB x3.op x4) (
      (idx' n1.l i508).bind fun x5 =>
      (app 144 l507 ([x5]:List Nod)).bind fun l6 =>
      some (l6,i508)) (
      b0t n n1 ops2 m6 l507 i508 (w64 (k509+1)))) (
      some (l507,i508))
def a7v (n:Nat)(n1:Nod)(ops2:List Int):Nat ->(List Nod)->Int->Option (List Nod)
  | 0,_,_=>none
  | m3 + 1,b5b,a9r =>
      cond (ltB a9r (List.length n1.l:Int)) (
      Option.bind (α:=List Nod×Int) (
      b0t n n1 ops2 n b5b a9r 0) fun(l513,i514) =>
      a7v n n1 ops2 m3 l513 (w64 (i514+1))) (
      some b5b)
def a8o (n:Nat)(n1:Nod)(ops2:List Int):Option (List Nod) :=
 Option.bind (α:=List Nod) (
 a7v n n1 ops2 n ([]:List Nod) 0) fun l517 =>
 some (l517)
def b2I (n1:Nod)(ops2:List Int):List Nod->Out
 | r518=>.ret (.sl F5 r518) []
def a4n (n:Nat)(r4:List Nod):Nat ->(List Str)->Int->Option (List Str)
  | 0,_,_=>none
  | m4 + 1,l504,i505 =>
      cond (ltB i505 (List.length r4:Int)) (
      Option.bind (α:=List Str) (
      cond (ltB 0 i505) (
      (app 16 l504 ([[44]]:List Str)).bind fun l5 =>
      some l5) (
      some l504)) fun b3e =>
      Option.bind (α:=List Str) (
      (idx' r4 i505).bind fun x6 =>
      cond (eqB x6.n 1) (
      (app 16 b3e ([[105,110,111,117,116]]:List Str)).bind fun l7 =>
      some l7) (
      cond (eqB x6.n 2) (
      (app 16 b3e ([[99,111,110,115,117,109,101]]:List Str)).bind fun l8 =>
      some l8) (
      some b3e))) fun l510 =>
      (idx' r4 i505).bind fun x9 =>
      (app 16 l510 ([x9.s,[58]]:List Str)).bind fun l10 =>
      (idx' r4 i505).bind fun x11 =>
      (L9 n l10 x11.t).bind fun r12 =>
      a4n n r4 m4 r12 (w64 (i505+1))) (
      some l504)
def a6n (n:Nat)(l1:List Str)(n2:Nod):Option (List Str) :=
 (app 16 l1 ([[40]]:List Str)).bind fun l3 =>
 (a8o n n2 ([10]:List Int)).bind fun r4 =>
 Option.bind (α:=List Str) (
 a4n n r4 n l3 0) fun l513 =>
 (app 16 l513 ([[41]]:List Str)).bind fun l13 =>
 some (l13)
def a8m (l1:List Str)(n2:Nod):List Str->Out
 | r506=>.ret (.st 0 clS r506) [(0,.tip (tpe 1 (List.length r506)) (List.length r506))]
def a5f (n:Nat)(l1:List Str)(t2:Typ):Option (List Str) :=
 cond (eqB t2.kind 4) (
 some (l1)) (
 (app 16 l1 ([[45,62]]:List Str)).bind fun l3 =>
 (L9 n l3 t2).bind fun r4 =>
 some (r4))
def b3p (l1:List Str)(t2:Typ):List Str->Out
 | U3=>.ret (.st 0 clS U3) [(0,.tip (tpe 1 (List.length U3)) (List.length U3))]
structure F8 where
 R8:(List Str)->Nod->Option (List Str)
def Y8 (n:Nat)(Φ:F8)(n2:Nod):Nat ->(List Str)->Int->Option (List Str)
  | 0,_,_=>none
  | m18 + 1,b5b,a9r =>
      cond (ltB a9r (List.length n2.l:Int)) (
      Option.bind (α:=List Str) (
      cond (eqB a9r 0) (
      (app 16 b5b ([[40]]:List Str)).bind fun l16 =>
      some l16) (
      (app 16 b5b ([[44]]:List Str)).bind fun l17 =>
      some l17)) fun b3e =>
      (idx' n2.l a9r).bind fun x18 =>
      (Φ.R8 b3e x18).bind fun r19 =>
      Y8 n Φ n2 m18 r19 (w64 (a9r+1))) (
      some b5b)
def a2b (n:Nat)(Φ:F8)(l1:List Str)(n2:Nod):Option (List Str) :=
 a3m (α:=List Str) (
 cond (eqB n2.op 40) (
 (app 16 l1 ([[95]]:List Str)).bind fun l3 =>
 some (.out (l3))) (
 cond (eqB n2.op 41) (
 (app 16 l1 ([n2.s]:List Str)).bind fun l4 =>
 some (.out (l4))) (
 cond (eqB n2.op 42) (
 (b3J n2.n).bind fun rr5 =>
 cond (ltB n2.n 0) (
 (subS rr5 1 (List.length rr5:Int)).bind fun s6 =>
 (app 16 l1 ([[45],s6]:List Str)).bind fun l7 =>
 some (.out (l7))) (
 (app 16 l1 ([rr5]:List Str)).bind fun l8 =>
 some (.out (l8)))) (
 cond (eqB n2.op 43) (
 (a4F n2.n).bind fun r9 =>
 (app 16 l1 ([r9]:List Str)).bind fun l10 =>
 some (.out (l10))) (
 cond (eqB n2.op 44) (
 (escR n2.s).bind fun rr11 =>
 (cat [34] rr11).bind fun s12 =>
 (cat s12 [34]).bind fun s13 =>
 (app 16 l1 ([s13]:List Str)).bind fun l14 =>
 some (.out (l14))) (
 cond (eqB n2.op 45) (
 (app 16 l1 ([[46],n2.s]:List Str)).bind fun l15 =>
 Option.bind (α:=List Str) (
 Y8 n Φ n2 n l15 0) fun l512 =>
 cond (ltB 0 (List.length n2.l:Int)) (
 (app 16 l512 ([[41]]:List Str)).bind fun l20 =>
 some (.brk l20)) (
 some (.brk l512))) (
 some (.brk l1)))))))) fun l505 =>
 some (l505)
def a7u (l1:List Str)(n2:Nod):List Str->Out
 | U3=>.ret (.st 0 clS U3) [(0,.tip (tpe 1 (List.length U3)) (List.length U3))]
def F8.fs:Nat->F8
 | 0=>⟨fun _ _=>none⟩
 | n+1=>⟨a2b n (F8.fs n)⟩
def R8 (n:Nat)(l1:List Str)(n2:Nod):Option (List Str):=(F8.fs n).R8 l1 n2
def a3F (n1:Nod):Option (Bool) :=
 cond (eqB n1.op 61) (
 some (true)) (
 cond (eqB n1.op 63) (
 some (true)) (
 cond (eqB n1.op 66) (
 some (true)) (
 some ((eqB n1.op 65)))))
def b4c (n1:Nod):Bool->Out
 | U3=>.ret (.bool U3) []
structure j6 where
 F3:(List Str)->Nod->Option (List Str)
 Y7:(List Str) ->(List Nod)->Option (List Str)
 a0b:(List Str)->Nod->Option (List Str)
 J5:(List Str)->Nod->Option (List Str)
 a0a:(List Str)->Nod->Option (List Str)
 T9:(List Str)->Nod->Bool->Option (List Str)
def a3O (n:Nat)(Φ:j6)(n2:Nod):Nat ->(List Str)->Int->Option (List Str)
  | 0,_,_=>none
  | m14 + 1,b3e,i510 =>
      cond (ltB i510 (List.length n2.l:Int)) (
      Option.bind (α:=List Str) (
      gdO (!eqB 2 0) <|
      cond (eqB (Int.tmod i510 2) 1) (
      (idx' n2.l i510).bind fun x13 =>
      (Φ.F3 b3e x13).bind fun r14 =>
      some r14) (
      Option.bind (α:=Str) (
      cond (ltB 0 i510) (
      some [41]) (
      some [34])) fun open514 =>
      Option.bind (α:=Str) (
      cond (ltB (w64 (i510+1)) (List.length n2.l:Int)) (
      some [92,40]) (
      some [34])) fun close515 =>
      (idx' n2.l i510).bind fun x15 =>
      (escR x15.s).bind fun rr16 =>
      (cat open514 rr16).bind fun s17 =>
      (cat s17 close515).bind fun s18 =>
      (app 16 b3e ([s18]:List Str)).bind fun l19 =>
      some l19)) fun l516 =>
      a3O n Φ n2 m14 l516 (w64 (i510+1))) (
      some b3e)
def a3P (n:Nat)(Φ:j6)(n2:Nod):Nat ->(List Str)->Int->Option (List Str)
  | 0,_,_=>none
  | m38 + 1,l529,i530 =>
      cond (ltB i530 (List.length n2.l:Int)) (
      Option.bind (α:=List Str) (
      cond (ltB 0 i530) (
      (app 16 l529 ([[44]]:List Str)).bind fun l28 =>
      some l28) (
      some l529)) fun l541 =>
      (idx' n2.l i530).bind fun x29 =>
      (Φ.F3 l541 x29).bind fun r30 =>
      a3P n Φ n2 m38 r30 (w64 (i530+1))) (
      some l529)
def a0e (n:Nat)(Φ:j6)(l1:List Str)(n2:Nod):Option (List Str) :=
 a3m (α:=Unit) (
 cond (eqB n2.op 50) (
 (b3J n2.n).bind fun rr3 =>
 (app 16 l1 ([rr3]:List Str)).bind fun l4 =>
 some (.out (l4))) (
 cond (eqB n2.op 51) (
 (a4F n2.n).bind fun r5 =>
 (app 16 l1 ([r5]:List Str)).bind fun l6 =>
 some (.out (l6))) (
 cond (eqB n2.op 52) (
 (escR n2.s).bind fun rr7 =>
 (cat [34] rr7).bind fun s8 =>
 (cat s8 [34]).bind fun s9 =>
 (app 16 l1 ([s9]:List Str)).bind fun l10 =>
 some (.out (l10))) (
 cond (eqB n2.op 54) (
 (app 16 l1 ([n2.s]:List Str)).bind fun l11 =>
 some (.out (l11))) (
 cond (eqB n2.op 61) (
 (app 16 l1 ([[99,111,110,115,117,109,101],n2.s]:List Str)).bind fun l12 =>
 some (.out (l12))) (
 cond (eqB n2.op 53) (
 Option.bind (α:=List Str) (
 a3O n Φ n2 n l1 0) fun l519 =>
 some (.out (l519))) (
 cond (eqB n2.op 56) (
 (app 16 l1 ([n2.s]:List Str)).bind fun l20 =>
 (Φ.Y7 l20 n2.l).bind fun r21 =>
 some (.out (r21))) (
 cond (eqB n2.op 59) (
 (L9 n l1 n2.t).bind fun r22 =>
 (Φ.Y7 r22 n2.l).bind fun r23 =>
 some (.out (r23))) (
 cond (eqB n2.op 58) (
 (L9 n l1 n2.t).bind fun r24 =>
 (app 16 r24 ([[46],n2.s]:List Str)).bind fun l25 =>
 Option.bind (α:=List Str) (
 cond (eqB n2.n 1) (
 (Φ.Y7 l25 n2.l).bind fun r26 =>
 some r26) (
 some l25)) fun l527 =>
 some (.out (l527))) (
 cond (eqB n2.op 67) (
 (app 16 l1 ([[91]]:List Str)).bind fun l27 =>
 Option.bind (α:=List Str) (
 a3P n Φ n2 n l27 0) fun l544 =>
 (app 16 l544 ([[93]]:List Str)).bind fun l31 =>
 some (.out (l31))) (
 some (.brk ())))))))))))) fun _ =>
 cond (eqB (List.length n2.l:Int) 0) (
 some (l1)) (
 (Φ.a0b l1 n2).bind fun r32 =>
 some (r32))
def a8t (l1:List Str)(n2:Nod):List Str->Out
 | U3=>.ret (.st 0 clS U3) [(0,.tip (tpe 1 (List.length U3)) (List.length U3))]
def a5a (n:Nat)(Φ:j6)(O3:List Nod):Nat ->(List Str)->Int->Option (List Str)
  | 0,_,_=>none
  | m3 + 1,l502,b35 =>
      cond (ltB b35 (List.length O3:Int)) (
      Option.bind (α:=List Str) (
      cond (ltB 0 b35) (
      (app 16 l502 ([[44]]:List Str)).bind fun l4 =>
      some l4) (
      some l502)) fun l507 =>
      (idx' O3 b35).bind fun x5 =>
      (Φ.F3 l507 x5).bind fun r6 =>
      a5a n Φ O3 m3 r6 (w64 (b35+1))) (
      some l502)
def a4d (n:Nat)(Φ:j6)(l1:List Str)(O3:List Nod):Option (List Str) :=
 (app 16 l1 ([[40]]:List Str)).bind fun l3 =>
 Option.bind (α:=List Str) (
 a5a n Φ O3 n l3 0) fun l510 =>
 (app 16 l510 ([[41]]:List Str)).bind fun l7 =>
 some (l7)
def a9m (l1:List Str)(O3:List Nod):List Str->Out
 | b2B=>.ret (.st 0 clS b2B) [(0,.tip (tpe 1 (List.length b2B)) (List.length b2B))]
def a3c (n:Nat)(Φ:j6)(n2:Nod):Nat ->(List Str)->Int->Int->Option (List Str×Int)
  | 0,_,_,_=>none
  | m35 + 1,l532,b2i,k534 =>
      (idx' n2.l b2i).bind fun x40 =>
      cond (ltB k534 (List.length x40.l:Int)) (
      (idx' n2.l b2i).bind fun x41 =>
      (idx' x41.l k534).bind fun x42 =>
      (Φ.J5 l532 x42).bind fun r43 =>
      a3c n Φ n2 m35 r43 b2i (w64 (k534+1))) (
      some (l532,b2i))
def R7 (n:Nat)(Φ:j6)(n2:Nod):Nat ->(List Str)->Int->Option (List Str)
  | 0,_,_=>none
  | m31 + 1,l526,i527 =>
      cond (ltB i527 (List.length n2.l:Int)) (
      Option.bind (α:=List Str×Int) (
      (idx' n2.l i527).bind fun x39 =>
      cond (eqB x39.op 20) (
      a3c n Φ n2 n l526 i527 0) (
      some (l526,i527))) fun(l538,i539) =>
      R7 n Φ n2 m31 l538 (w64 (i539+1))) (
      some l526)
def a1R (n:Nat)(Φ:j6)(l1:List Str)(n2:Nod):Option (List Str) :=
 a3m (α:=Unit) (
 cond (eqB n2.op 55) (
 (idx' n2.l 0).bind fun x3 =>
 (idx' n2.l 0).bind fun x4 =>
 (a3F x4).bind fun r5 =>
 (Φ.T9 l1 x3 r5).bind fun r6 =>
 (app 16 r6 ([[46],n2.s]:List Str)).bind fun l7 =>
 some (.out (l7))) (
 cond (eqB n2.op 57) (
 (idx' n2.l 0).bind fun x8 =>
 (idx' n2.l 0).bind fun x9 =>
 (a3F x9).bind fun r10 =>
 (Φ.T9 l1 x8 r10).bind fun r11 =>
 (app 16 r11 ([[46],n2.s]:List Str)).bind fun l12 =>
 (a9Q n2.l 1 (List.length n2.l:Int)).bind fun l13 =>
 (Φ.Y7 l12 l13).bind fun r14 =>
 some (.out (r14))) (
 cond (eqB n2.op 60) (
 (idx' n2.l 0).bind fun x15 =>
 (Φ.T9 l1 x15 true).bind fun r16 =>
 (a9Q n2.l 1 (List.length n2.l:Int)).bind fun l17 =>
 (Φ.Y7 r16 l17).bind fun r18 =>
 some (.out (r18))) (
 cond (eqB n2.op 62) (
 (idx' n2.l 0).bind fun x19 =>
 (app 16 l1 ([[38]]:List Str)).bind fun l20 =>
 (Φ.F3 l20 x19).bind fun r21 =>
 some (.out (r21))) (
 cond (eqB n2.op 66) (
 (idx' n2.l 0).bind fun x22 =>
 (app 16 l1 ([[45]]:List Str)).bind fun l23 =>
 (Φ.F3 l23 x22).bind fun r24 =>
 some (.out (r24))) (
 cond (eqB n2.op 65) (
 (idx' n2.l 0).bind fun x25 =>
 (app 16 l1 ([[33]]:List Str)).bind fun l26 =>
 (Φ.F3 l26 x25).bind fun r27 =>
 some (.out (r27))) (
 cond (eqB n2.op 64) (
 (app 16 l1 ([[40]]:List Str)).bind fun l28 =>
 (idx' n2.l 0).bind fun x29 =>
 (Φ.F3 l28 x29).bind fun r30 =>
 (app 16 r30 ([n2.s]:List Str)).bind fun l31 =>
 Option.bind (α:=List Str) (
 cond (ltB 1 (List.length n2.l:Int)) (
 (idx' n2.l 1).bind fun x32 =>
 (Φ.F3 l31 x32).bind fun r33 =>
 some r33) (
 some l31)) fun l502 =>
 (app 16 l502 ([[41]]:List Str)).bind fun l34 =>
 some (.out (l34))) (
 cond (eqB n2.op 63) (
 (app 16 l1 ([[123]]:List Str)).bind fun l35 =>
 (a6n n l35 n2).bind fun r36 =>
 (a5f n r36 n2.t).bind fun r37 =>
 (app 16 r37 ([[105,110]]:List Str)).bind fun l38 =>
 Option.bind (α:=List Str) (
 R7 n Φ n2 n l38 0) fun l542 =>
 (app 16 l542 ([[125]]:List Str)).bind fun l44 =>
 some (.out (l44))) (
 some (.brk ())))))))))) fun _ =>
 some (l1)
def a6T (l1:List Str)(n2:Nod):List Str->Out
 | U3=>.ret (.st 0 clS U3) [(0,.tip (tpe 1 (List.length U3)) (List.length U3))]
def a4p (n:Nat)(Φ:j6)(n2:Nod):Nat ->(List Str)->Int->Option (List Str)
  | 0,_,_=>none
  | m5 + 1,l504,i505 =>
      cond (ltB i505 (List.length n2.l:Int)) (
      (idx' n2.l i505).bind fun x4 =>
      (Φ.J5 l504 x4).bind fun r5 =>
      a4p n Φ n2 m5 r5 (w64 (i505+1))) (
      some l504)
def a1S (n:Nat)(Φ:j6)(n2:Nod):Nat ->(List Str)->Int->Option (List Str)
  | 0,_,_=>none
  | m18 + 1,l501,i502 =>
      cond (ltB i502 (List.length n2.l:Int)) (
      (app 16 l501 ([[61]]:List Str)).bind fun l12 =>
      (idx' n2.l i502).bind fun x13 =>
      (Φ.F3 l12 x13).bind fun r14 =>
      a1S n Φ n2 m18 r14 (w64 (i502+1))) (
      some l501)
def a3Q (n:Nat)(Φ:j6)(n2:Nod):Nat ->(List Str)->Int->Option (List Str)
  | 0,_,_=>none
  | m25 + 1,l535,i536 =>
      cond (ltB i536 (List.length n2.l:Int)) (
      Option.bind (α:=List Str) (
      cond (ltB 0 i536) (
      (app 16 l535 ([[61]]:List Str)).bind fun l16 =>
      some l16) (
      some l535)) fun l550 =>
      (idx' n2.l i536).bind fun x17 =>
      (Φ.F3 l550 x17).bind fun r18 =>
      a3Q n Φ n2 m25 r18 (w64 (i536+1))) (
      some l535)
def a1T (n:Nat)(Φ:j6)(n2:Nod):Nat ->(List Str)->Int->Option (List Str)
  | 0,_,_=>none
  | m39 + 1,l537,i538 =>
      cond (ltB i538 (List.length n2.l:Int)) (
      (idx' n2.l i538).bind fun x22 =>
      (Φ.F3 l537 x22).bind fun r23 =>
      a1T n Φ n2 m39 r23 (w64 (i538+1))) (
      some l537)
def P9 (n:Nat)(Φ:j6)(l1:List Str)(n2:Nod):Option (List Str) :=
 a3m (α:=Unit) (
 cond (eqB n2.op 20) (
 (app 16 l1 ([[123]]:List Str)).bind fun l3 =>
 Option.bind (α:=List Str) (
 a4p n Φ n2 n l3 0) fun l517 =>
 (app 16 l517 ([[125]]:List Str)).bind fun l6 =>
 some (.out (l6))) (
 cond (eqB n2.op 21) (
 Option.bind (α:=List Str) (
 cond (eqB n2.n 1) (
 (app 16 l1 ([[118,97,114]]:List Str)).bind fun l7 =>
 some l7) (
 (app 16 l1 ([[108,101,116]]:List Str)).bind fun l8 =>
 some l8)) fun b5c =>
 (app 16 b5c ([n2.s]:List Str)).bind fun l9 =>
 Option.bind (α:=List Str) (
 cond (!eqB n2.t.kind 0) (
 (app 16 l9 ([[58]]:List Str)).bind fun l10 =>
 (L9 n l10 n2.t).bind fun r11 =>
 some r11) (
 some l9)) fun l506 =>
 Option.bind (α:=List Str) (
 a1S n Φ n2 n l506 0) fun l511 =>
 (app 16 l511 ([[59]]:List Str)).bind fun l15 =>
 some (.out (l15))) (
 cond (eqB n2.op 22) (
 Option.bind (α:=List Str) (
 a3Q n Φ n2 n l1 0) fun l553 =>
 (app 16 l553 ([[59]]:List Str)).bind fun l19 =>
 some (.out (l19))) (
 Option.bind (α:=Bool) (
 cond (eqB n2.op 23) (
 some (eqB n2.op 23)) (
 cond (eqB n2.op 28) (
 some (eqB n2.op 28)) (
 some (eqB n2.op 29)))) fun x591 =>
 cond x591 (
 Option.bind (α:=List Str) (
 cond (eqB n2.op 28) (
 (app 16 l1 ([[114,101,116,117,114,110]]:List Str)).bind fun l20 =>
 some l20) (
 some l1)) fun l573 =>
 Option.bind (α:=List Str) (
 cond (eqB n2.op 29) (
 (app 16 l573 ([[116,104,114,111,119]]:List Str)).bind fun l21 =>
 some l21) (
 some l573)) fun l554 =>
 Option.bind (α:=List Str) (
 a1T n Φ n2 n l554 0) fun l559 =>
 (app 16 l559 ([[59]]:List Str)).bind fun l24 =>
 some (.out (l24))) (
 some (.brk ())))))) fun _ =>
 (Φ.a0a l1 n2).bind fun r25 =>
 some (r25)
def a8u (l1:List Str)(n2:Nod):List Str->Out
 | r503=>.ret (.st 0 clS r503) [(0,.tip (tpe 1 (List.length r503)) (List.length r503))]
def a1k (n:Nat)(Φ:j6)(n2:Nod):Nat ->(List Str)->Int->Option (List Str)
  | 0,_,_=>none
  | m8 + 1,b5b,a9r =>
      cond (ltB a9r (List.length n2.l:Int)) (
      Option.bind (α:=List Str) (
      cond (eqB a9r 0) (
      (idx' n2.l a9r).bind fun x5 =>
      (Φ.F3 b5b x5).bind fun r6 =>
      some r6) (
      Option.bind (α:=List Str) (
      cond (eqB a9r 2) (
      (app 16 b5b ([[101,108,115,101]]:List Str)).bind fun l7 =>
      some l7) (
      some b5b)) fun l508 =>
      (idx' n2.l a9r).bind fun x8 =>
      (Φ.J5 l508 x8).bind fun r9 =>
      some r9)) fun b3e =>
      a1k n Φ n2 m8 b3e (w64 (a9r+1))) (
      some b5b)
def a0l (n:Nat)(Φ:j6)(n2:Nod):Nat ->(List Str)->Int->Option (List Str)
  | 0,_,_=>none
  | m18 + 1,b5c,i519 =>
      cond (ltB i519 (List.length n2.l:Int)) (
      Option.bind (α:=List Str) (
      cond (eqB i519 0) (
      (idx' n2.l i519).bind fun x11 =>
      (Φ.F3 b5c x11).bind fun r12 =>
      (app 16 r12 ([[123]]:List Str)).bind fun l13 =>
      some l13) (
      (idx' n2.l i519).bind fun x14 =>
      cond (eqB (List.length x14.l:Int) 2) (
      (app 16 b5c ([[99,97,115,101]]:List Str)).bind fun l15 =>
      (idx' n2.l i519).bind fun x16 =>
      (idx' x16.l 0).bind fun x17 =>
      (R8 n l15 x17).bind fun r18 =>
      (idx' n2.l i519).bind fun x19 =>
      (idx' x19.l 1).bind fun x20 =>
      (Φ.J5 r18 x20).bind fun r21 =>
      some r21) (
      some b5c))) fun l527 =>
      a0l n Φ n2 m18 l527 (w64 (i519+1))) (
      some b5c)
def a3a (n:Nat)(Φ:j6)(n2:Nod):Nat ->(List Str)->Int->Option (List Str)
  | 0,_,_=>none
  | m31 + 1,l532,b2i =>
      cond (ltB b2i (List.length n2.l:Int)) (
      Option.bind (α:=List Str) (
      cond (eqB b2i 1) (
      (app 16 l532 ([[99,97,116,99,104],n2.s]:List Str)).bind fun l24 =>
      some l24) (
      some l532)) fun l548 =>
      (idx' n2.l b2i).bind fun x25 =>
      (Φ.J5 l548 x25).bind fun r26 =>
      a3a n Φ n2 m31 r26 (w64 (b2i+1))) (
      some l532)
def a3b (n:Nat)(Φ:j6)(n2:Nod):Nat ->(List Str)->Int->Option (List Str)
  | 0,_,_=>none
  | m39 + 1,l534,i535 =>
      cond (ltB i535 (List.length n2.l:Int)) (
      (idx' n2.l i535).bind fun x28 =>
      (Φ.J5 l534 x28).bind fun r29 =>
      a3b n Φ n2 m39 r29 (w64 (i535+1))) (
      some l534)
def a0Y (n:Nat)(Φ:j6)(l1:List Str)(n2:Nod):Option (List Str) :=
 Option.bind (α:=List Str) (
 Option.bind (α:=Bool) (
 cond (eqB n2.op 24) (
 some (eqB n2.op 24)) (
 some (eqB n2.op 25))) fun x536 =>
 cond x536 (
 Option.bind (α:=List Str) (
 cond (eqB n2.op 24) (
 (app 16 l1 ([[105,102]]:List Str)).bind fun l3 =>
 some l3) (
 (app 16 l1 ([[119,104,105,108,101]]:List Str)).bind fun l4 =>
 some l4)) fun l505 =>
 a1k n Φ n2 n l505 0) (
 cond (eqB n2.op 26) (
 (app 16 l1 ([[109,97,116,99,104]]:List Str)).bind fun l10 =>
 Option.bind (α:=List Str) (
 a0l n Φ n2 n l10 0) fun l530 =>
 (app 16 l530 ([[125]]:List Str)).bind fun l22 =>
 some l22) (
 cond (eqB n2.op 30) (
 (app 16 l1 ([[100,111]]:List Str)).bind fun l23 =>
 a3a n Φ n2 n l23 0) (
 cond (eqB n2.op 31) (
 (app 16 l1 ([[100,101,102,101,114]]:List Str)).bind fun l27 =>
 a3b n Φ n2 n l27 0) (
 some l1))))) fun l555 =>
 some (l555)
def a6S (l1:List Str)(n2:Nod):List Str->Out
 | r556=>.ret (.st 0 clS r556) [(0,.tip (tpe 1 (List.length r556)) (List.length r556))]
def a2e (n:Nat)(Φ:j6)(l1:List Str)(n2:Nod)(around3:Bool):Option (List Str) :=
 cond (!around3) (
 (Φ.F3 l1 n2).bind fun r4 =>
 some (r4)) (
 (app 16 l1 ([[40]]:List Str)).bind fun l5 =>
 (Φ.F3 l5 n2).bind fun r6 =>
 (app 16 r6 ([[41]]:List Str)).bind fun l7 =>
 some (l7))
def b2K (l1:List Str)(n2:Nod)(around3:Bool):List Str->Out
 | U3=>.ret (.st 0 clS U3) [(0,.tip (tpe 1 (List.length U3)) (List.length U3))]
def j6.fs:Nat->j6
 | 0=>⟨fun _ _=>none,fun _ _=>none,fun _ _=>none,fun _ _=>none,fun _ _=>none,fun _ _ _=>none⟩
 | n+1=>⟨a0e n (j6.fs n),a4d n (j6.fs n),a1R n (j6.fs n),P9 n (j6.fs n),a0Y n (j6.fs n),a2e n (j6.fs n)⟩
def F3 (n:Nat)(l1:List Str)(n2:Nod):Option (List Str):=(j6.fs n).F3 l1 n2
def Y7 (n:Nat)(l1:List Str)(O3:List Nod):Option (List Str):=(j6.fs n).Y7 l1 O3
def a0b (n:Nat)(l1:List Str)(n2:Nod):Option (List Str):=(j6.fs n).a0b l1 n2
def J5 (n:Nat)(l1:List Str)(n2:Nod):Option (List Str):=(j6.fs n).J5 l1 n2
def a0a (n:Nat)(l1:List Str)(n2:Nod):Option (List Str):=(j6.fs n).a0a l1 n2
def T9 (n:Nat)(l1:List Str)(n2:Nod)(around3:Bool):Option (List Str):=(j6.fs n).T9 l1 n2 around3
def a1p (n:Nat)(n1:Nod):Option (Str) :=
 (F3 n ([]:List Str) n1).bind fun r2 =>
 (b3K r2 [32]).bind fun rr3 =>
 some (rr3)
def b1d (n1:Nod):Str->Out
 | U3=>.ret (.str U3) []
structure K9 where
 a0n:Typ->Int->Option (Int)
def a4Z (n:Nat)(Φ:K9)(a2T:Int)(t1:Typ):Nat->Int->Int->Option (Int)
  | 0,_,_=>none
  | m3 + 1,n503,a9r =>
      Option.bind (α:=Bool) (
      cond (ltB a9r (List.length t1.args:Int)) (
      some (ltB n503 a2T)) (
      some false)) fun x507 =>
      cond x507 (
      (idx' t1.args a9r).bind fun x3 =>
      (Φ.a0n x3 (w64 (a2T-n503))).bind fun r4 =>
      a4Z n Φ a2T t1 m3 (w64 (n503+r4)) (w64 (a9r+1))) (
      some n503)
def a4c (n:Nat)(Φ:K9)(t1:Typ)(a2T:Int):Option (Int) :=
 Option.bind (α:=Int) (
 a4Z n Φ a2T t1 n 1 0) fun n510 =>
 some (n510)
def a9l (t1:Typ)(a2T:Int):Int->Out
 | b38=>.ret (.i b38) []
def K9.fs:Nat->K9
 | 0=>⟨fun _ _=>none⟩
 | n+1=>⟨a4c n (K9.fs n)⟩
def a0n (n:Nat)(t1:Typ)(a2T:Int):Option (Int):=(K9.fs n).a0n t1 a2T
noncomputable def a6R (n:Nat)(a1N:Str):Option (Typ×Flt) :=
 (a9b a1N).bind fun(l2,c3,a4) =>
 cond (!eqB c3 0) (
 some (((⟨0,[],0,[]⟩:Typ),(⟨c3,a4⟩:Flt)))) (
 (K5 n l2 (List.length a1N:Int) 0 (-1)).bind fun(r5,r6,at7) =>
 Option.bind (α:=Bool) (
 cond (!r6) (
 some true) (
 some (ltB at7 (List.length l2:Int)))) fun x504 =>
 cond x504 (
 (F4 l2 (List.length a1N:Int) at7 (-1)).bind fun r8 =>
 some (((⟨0,[],0,[]⟩:Typ),(⟨20,r8⟩:Flt)))) (
 (a0n n r5 41).bind fun r9 =>
 cond (ltB 40 r9) (
 some (((⟨0,[],0,[]⟩:Typ),(⟨2,0⟩:Flt)))) (
 some ((r5,(⟨0,0⟩:Flt))))))
def b0s (a1N:Str):Typ×Flt->Out
 |(r507,r508)=>.ret (.tuple [.agg [.i r507.kind,.str r507.name,.i r507.n,.sl C9 r507.args],.agg [.i r508.code,.i r508.at_]]) []
def a0K (n:Nat)(t1:Typ):Option (Str) :=
 (F9 n t1 ([]:List Str)).bind fun words2 =>
 (a1j words2).bind fun r3 =>
 some (r3)
def b09 (t1:Typ):Str->Out
 | U3=>.ret (.str U3) []
def a0L (n:Nat)(t1:Typ):Option (Str) :=
 (L9 n ([]:List Str) t1).bind fun r2 =>
 (b3K r2 [32]).bind fun rr3 =>
 some (rr3)
def b1e (t1:Typ):Str->Out
 | U3=>.ret (.str U3) []
noncomputable def a3o (n:Nat)(expr1 typ2:Str):Option (Bool) :=
 Option.bind (α:=Bool) (
 (a6J expr1).bind fun _ =>
 cond (ltB 8200 (List.length expr1:Int)) (
 some true) (
 (a6J typ2).bind fun _ =>
 some (ltB 8200 (List.length typ2:Int)))) fun a4K =>
 cond a4K (
 (b4P).bind fun bb3 =>
 some (bb3)) (
 (a6Q n expr1).bind fun(r4,r5) =>
 Option.bind (α:=Bool) (
 cond (eqB r5.code 0) (
 (a1o n r4).bind fun r6 =>
 (a1p n r4).bind fun r7 =>
 some (!eqS r6 r7)) (
 some false)) fun x516 =>
 cond x516 (
 some (false)) (
 (a6R n typ2).bind fun(r8,r9) =>
 Option.bind (α:=Bool) (
 cond (eqB r9.code 0) (
 (a0K n r8).bind fun r10 =>
 (a0L n r8).bind fun r11 =>
 some (!eqS r10 r11)) (
 some false)) fun x513 =>
 cond x513 (
 some (false)) (
 (b4P).bind fun bb12 =>
 some (bb12))))
def a5p (expr1 typ2:Str):Bool->Out
 | U3=>.ret (.bool U3) []
end Go.Proofs.YtmippldlhnajkaaGreatDoor
